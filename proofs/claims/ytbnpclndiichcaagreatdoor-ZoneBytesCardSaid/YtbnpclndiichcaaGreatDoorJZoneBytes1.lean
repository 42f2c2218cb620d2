/- What the functions come to in plain data, with proofs, and what that answers. -/
import Derived.Test.YtbnpclndiichcaaGreatDoorJZoneBytes0
import Derived.Lib.Strings
import Derived.Lib.Atoi
import Derived.Laws.Concat
import Derived.Laws.RangeAny
import Derived.Lib.Bytealg
import Derived.Lib.Join
section
set_option linter.unusedVariables false
set_option linter.unusedSimpArgs false
namespace Go.Proofs.YtbnpclndiichcaaGreatDoor
open Go Go.Proofs.YtbnpclndiichcaaGreatDoor.Eng
set_option linter.unusedVariables false
set_option maxRecDepth 100000
set_option maxHeartbeats 4000000
variable {G : Gs}
abbrev Tzone_Same : Type := uQ58 → uQ58 → (Bool → Prop) → Prop
def Yzone_Same (xslices_Equal___api_Type_api_Type_ : Tslices_Equal___api_Type_api_Type_) (xslices_Equal___api_Trans_api_Trans_ : Tslices_Equal___api_Trans_api_Trans_) (xslices_Equal___api_Corr_api_Corr_ : Tslices_Equal___api_Corr_api_Corr_) (a0 : uQ58) (a1 : uQ58) (K : Bool → Prop) : Prop :=
 xslices_Equal___api_Type_api_Type_ a0.1 a1.1 (fun r2 =>
 (if r2 then
 xslices_Equal___api_Trans_api_Trans_ a0.2.1 a1.2.1 (fun r3 =>
 (if r3 then
 xslices_Equal___api_Corr_api_Corr_ a0.2.2.1 a1.2.2.1 (fun r4 =>
 (if r4 then
 (if (ByteArray.toList a0.2.2.2.1 == ByteArray.toList a1.2.2.2.1) then
 K (a0.2.2.2.2.1 == a1.2.2.2.2.1)
 else
 K false)
 else
 K false))
 else
 K false))
 else
 K false))
def Xzone_Same : Tzone_Same := Yzone_Same Xslices_Equal___api_Type_api_Type_ Xslices_Equal___api_Trans_api_Trans_ Xslices_Equal___api_Corr_api_Corr_
def Jzone_Same (X : Tzone_Same) : Inst := mkI 23 upL90 .nil upL9 .nil X
def Izone_Same : Inst := Jzone_Same Xzone_Same
theorem Ezone_Same (xslices_Equal___api_Type_api_Type_ : Tslices_Equal___api_Type_api_Type_) (xslices_Equal___api_Trans_api_Trans_ : Tslices_Equal___api_Trans_api_Trans_) (xslices_Equal___api_Corr_api_Corr_ : Tslices_Equal___api_Corr_api_Corr_) : EqF Tryz.prog 40 gives Tryz.f23 [Jslices_Equal___api_Type_api_Type_ xslices_Equal___api_Type_api_Type_, Jslices_Equal___api_Trans_api_Trans_ xslices_Equal___api_Trans_api_Trans_, Jslices_Equal___api_Corr_api_Corr_ xslices_Equal___api_Corr_api_Corr_] [] (Jzone_Same (Yzone_Same xslices_Equal___api_Type_api_Type_ xslices_Equal___api_Trans_api_Trans_ xslices_Equal___api_Corr_api_Corr_)) := fun x y K => by kernel_rfl
theorem Izone_Same_ok : InstOk Tryz.prog G.1 Izone_Same := iok (gives := gives) [] (okCons Islices_Equal___api_Type_api_Type__ok (okCons Islices_Equal___api_Trans_api_Trans__ok (okCons Islices_Equal___api_Corr_api_Corr__ok okNil))) 40 follows Tryz.func23 (by kernel_rfl) (fun x => by kernel_rfl) (Ezone_Same Xslices_Equal___api_Type_api_Type_ Xslices_Equal___api_Trans_api_Trans_ Xslices_Equal___api_Corr_api_Corr_)
abbrev Tslices_Clone___api_Type_api_Type_ : Type := (List Eng.V) → ((List Eng.V) → Bool → Bool → Prop) → Prop
def Yslices_Clone___api_Type_api_Type_ (a0 : (List Eng.V)) (K : (List Eng.V) → Bool → Bool → Prop) : Prop :=
 (if List.length a0 = (0 : Nat) then
 (
 K [] true true
 ∧
 (if Eng.roomOk ((0 : Nat) + List.length a0) (32 : Nat) then
 K ([] ++ a0) true false
 else
 False))
 else
 (if Eng.roomOk ((0 : Nat) + List.length a0) (32 : Nat) then
 K ([] ++ a0) true false
 else
 False))
def Xslices_Clone___api_Type_api_Type_ : Tslices_Clone___api_Type_api_Type_ := Yslices_Clone___api_Type_api_Type_
def Jslices_Clone___api_Type_api_Type_ (X : Tslices_Clone___api_Type_api_Type_) : Inst := mkI 113 upL95 .nil upL4 upH96 X
def Islices_Clone___api_Type_api_Type_ : Inst := Jslices_Clone___api_Type_api_Type_ Xslices_Clone___api_Type_api_Type_
theorem Eslices_Clone___api_Type_api_Type_ : EqF Tryz.prog 8 gives Tryz.f113 [] [] (Jslices_Clone___api_Type_api_Type_ (Yslices_Clone___api_Type_api_Type_)) := fun x y K => by kernel_rfl
theorem Islices_Clone___api_Type_api_Type__ok : InstOk Tryz.prog G.1 Islices_Clone___api_Type_api_Type_ := iok (gives := gives) [] okNil 8 follows Tryz.func113 (by kernel_rfl) (fun x => by kernel_rfl) (Eslices_Clone___api_Type_api_Type_)
abbrev Tslices_Clone___api_Trans_api_Trans_ : Type := (List Eng.V) → ((List Eng.V) → Bool → Bool → Prop) → Prop
def Yslices_Clone___api_Trans_api_Trans_ (a0 : (List Eng.V)) (K : (List Eng.V) → Bool → Bool → Prop) : Prop :=
 (if List.length a0 = (0 : Nat) then
 (
 K [] true true
 ∧
 (if Eng.roomOk ((0 : Nat) + List.length a0) (16 : Nat) then
 K ([] ++ a0) true false
 else
 False))
 else
 (if Eng.roomOk ((0 : Nat) + List.length a0) (16 : Nat) then
 K ([] ++ a0) true false
 else
 False))
def Xslices_Clone___api_Trans_api_Trans_ : Tslices_Clone___api_Trans_api_Trans_ := Yslices_Clone___api_Trans_api_Trans_
def Jslices_Clone___api_Trans_api_Trans_ (X : Tslices_Clone___api_Trans_api_Trans_) : Inst := mkI 114 upL97 .nil upL4 upH98 X
def Islices_Clone___api_Trans_api_Trans_ : Inst := Jslices_Clone___api_Trans_api_Trans_ Xslices_Clone___api_Trans_api_Trans_
theorem Eslices_Clone___api_Trans_api_Trans_ : EqF Tryz.prog 8 gives Tryz.f114 [] [] (Jslices_Clone___api_Trans_api_Trans_ (Yslices_Clone___api_Trans_api_Trans_)) := fun x y K => by kernel_rfl
theorem Islices_Clone___api_Trans_api_Trans__ok : InstOk Tryz.prog G.1 Islices_Clone___api_Trans_api_Trans_ := iok (gives := gives) [] okNil 8 follows Tryz.func114 (by kernel_rfl) (fun x => by kernel_rfl) (Eslices_Clone___api_Trans_api_Trans_)
abbrev Tslices_Clone___api_Corr_api_Corr_ : Type := (List Eng.V) → ((List Eng.V) → Bool → Bool → Prop) → Prop
def Yslices_Clone___api_Corr_api_Corr_ (a0 : (List Eng.V)) (K : (List Eng.V) → Bool → Bool → Prop) : Prop :=
 (if List.length a0 = (0 : Nat) then
 (
 K [] true true
 ∧
 (if Eng.roomOk ((0 : Nat) + List.length a0) (16 : Nat) then
 K ([] ++ a0) true false
 else
 False))
 else
 (if Eng.roomOk ((0 : Nat) + List.length a0) (16 : Nat) then
 K ([] ++ a0) true false
 else
 False))
def Xslices_Clone___api_Corr_api_Corr_ : Tslices_Clone___api_Corr_api_Corr_ := Yslices_Clone___api_Corr_api_Corr_
def Jslices_Clone___api_Corr_api_Corr_ (X : Tslices_Clone___api_Corr_api_Corr_) : Inst := mkI 115 upL97 .nil upL4 upH98 X
def Islices_Clone___api_Corr_api_Corr_ : Inst := Jslices_Clone___api_Corr_api_Corr_ Xslices_Clone___api_Corr_api_Corr_
theorem Eslices_Clone___api_Corr_api_Corr_ : EqF Tryz.prog 8 gives Tryz.f115 [] [] (Jslices_Clone___api_Corr_api_Corr_ (Yslices_Clone___api_Corr_api_Corr_)) := fun x y K => by kernel_rfl
theorem Islices_Clone___api_Corr_api_Corr__ok : InstOk Tryz.prog G.1 Islices_Clone___api_Corr_api_Corr_ := iok (gives := gives) [] okNil 8 follows Tryz.func115 (by kernel_rfl) (fun x => by kernel_rfl) (Eslices_Clone___api_Corr_api_Corr_)
abbrev Tzone_Copy : Type := uQ58 → (uQ33 → (List Eng.V) → Bool → Bool → (List Eng.V) → Bool → Bool → (List Eng.V) → Bool → Bool → Prop) → Prop
def Yzone_Copy (xslices_Clone___api_Type_api_Type_ : Tslices_Clone___api_Type_api_Type_) (xslices_Clone___api_Trans_api_Trans_ : Tslices_Clone___api_Trans_api_Trans_) (xslices_Clone___api_Corr_api_Corr_ : Tslices_Clone___api_Corr_api_Corr_) (a0 : uQ58) (K : uQ33 → (List Eng.V) → Bool → Bool → (List Eng.V) → Bool → Bool → (List Eng.V) → Bool → Bool → Prop) : Prop :=
 xslices_Clone___api_Type_api_Type_ a0.1 (fun r1 r2 r3 =>
 xslices_Clone___api_Trans_api_Trans_ a0.2.1 (fun r4 r5 r6 =>
 xslices_Clone___api_Corr_api_Corr_ a0.2.2.1 (fun r7 r8 r9 =>
 K ((), (), (), a0.2.2.2) r1 r2 r3 r4 r5 r6 r7 r8 r9)))
def Xzone_Copy : Tzone_Copy := Yzone_Copy Xslices_Clone___api_Type_api_Type_ Xslices_Clone___api_Trans_api_Trans_ Xslices_Clone___api_Corr_api_Corr_
def Jzone_Copy (X : Tzone_Copy) : Inst := mkI 48 upL74 .nil upL99 upH46 X
def Izone_Copy : Inst := Jzone_Copy Xzone_Copy
theorem Ezone_Copy (xslices_Clone___api_Type_api_Type_ : Tslices_Clone___api_Type_api_Type_) (xslices_Clone___api_Trans_api_Trans_ : Tslices_Clone___api_Trans_api_Trans_) (xslices_Clone___api_Corr_api_Corr_ : Tslices_Clone___api_Corr_api_Corr_) : EqF Tryz.prog 16 gives Tryz.f48 [Jslices_Clone___api_Type_api_Type_ xslices_Clone___api_Type_api_Type_, Jslices_Clone___api_Trans_api_Trans_ xslices_Clone___api_Trans_api_Trans_, Jslices_Clone___api_Corr_api_Corr_ xslices_Clone___api_Corr_api_Corr_] [] (Jzone_Copy (Yzone_Copy xslices_Clone___api_Type_api_Type_ xslices_Clone___api_Trans_api_Trans_ xslices_Clone___api_Corr_api_Corr_)) := fun x y K => by kernel_rfl
theorem Izone_Copy_ok : InstOk Tryz.prog G.1 Izone_Copy := iok (gives := gives) [] (okCons Islices_Clone___api_Type_api_Type__ok (okCons Islices_Clone___api_Trans_api_Trans__ok (okCons Islices_Clone___api_Corr_api_Corr__ok okNil))) 16 follows Tryz.func48 (by kernel_rfl) (fun x => by kernel_rfl) (Ezone_Copy Xslices_Clone___api_Type_api_Type_ Xslices_Clone___api_Trans_api_Trans_ Xslices_Clone___api_Corr_api_Corr_)
abbrev Tepactlaw19_small : Type := (Bool → Prop) → Prop
def Yepactlaw19_small (xzone_Copy : Tzone_Copy) (xzone_Right : Tzone_Right) (xzone_Index : Tzone_Index) (xzone_Lookup : Tzone_Lookup) (xzone_Posix : Tzone_Posix) (xzone_Same : Tzone_Same) (K : Bool → Prop) : Prop :=
 xzone_Copy ([Eng.V.agg [Eng.V.c (Value.int IntKind.i64 (-18000)), Eng.V.c (Value.bool false), Eng.V.c (Value.string (ByteArray.mk #[(69 : UInt8), (83 : UInt8), (84 : UInt8)]))], Eng.V.agg [Eng.V.c (Value.int IntKind.i64 (-14400)), Eng.V.c (Value.bool true), Eng.V.c (Value.string (ByteArray.mk #[(69 : UInt8), (68 : UInt8), (84 : UInt8)]))]], [Eng.V.agg [Eng.V.c (Value.int IntKind.i64 100), Eng.V.c (Value.int IntKind.i64 1)], Eng.V.agg [Eng.V.c (Value.int IntKind.i64 200), Eng.V.c (Value.int IntKind.i64 0)]], [], ByteArray.mk #[(69 : UInt8), (83 : UInt8), (84 : UInt8), (53 : UInt8), (69 : UInt8), (68 : UInt8), (84 : UInt8), (44 : UInt8), (77 : UInt8), (51 : UInt8), (46 : UInt8), (50 : UInt8), (46 : UInt8), (48 : UInt8), (44 : UInt8), (77 : UInt8), (49 : UInt8), (49 : UInt8), (46 : UInt8), (49 : UInt8), (46 : UInt8), (48 : UInt8)], 2, ()) (fun r0 r1 r2 r3 r4 r5 r6 r7 r8 r9 =>
 (if ((↑(List.length r4) : Int) != 2) then
 K false
 else
 (if (0 :Int) ≤ 0 ∧ 0 < (↑(List.length r4) : Int) then
 (if r6 = false then
 (if (0 : Nat) < List.length r4 then
 xzone_Right ([Eng.V.agg [Eng.V.c (Value.int IntKind.i64 (-18000)), Eng.V.c (Value.bool false), Eng.V.c (Value.string (ByteArray.mk #[(69 : UInt8), (83 : UInt8), (84 : UInt8)]))], Eng.V.agg [Eng.V.c (Value.int IntKind.i64 (-14400)), Eng.V.c (Value.bool true), Eng.V.c (Value.string (ByteArray.mk #[(69 : UInt8), (68 : UInt8), (84 : UInt8)]))]], [Eng.V.agg [Eng.V.c (Value.int IntKind.i64 100), Eng.V.c (Value.int IntKind.i64 1)], Eng.V.agg [Eng.V.c (Value.int IntKind.i64 200), Eng.V.c (Value.int IntKind.i64 0)]], [], ByteArray.mk #[(69 : UInt8), (83 : UInt8), (84 : UInt8), (53 : UInt8), (69 : UInt8), (68 : UInt8), (84 : UInt8), (44 : UInt8), (77 : UInt8), (51 : UInt8), (46 : UInt8), (50 : UInt8), (46 : UInt8), (48 : UInt8), (44 : UInt8), (77 : UInt8), (49 : UInt8), (49 : UInt8), (46 : UInt8), (49 : UInt8), (46 : UInt8), (48 : UInt8)], 2, ()) (fun r10 =>
 (if r10 then
 xzone_Right ([Eng.V.agg [Eng.V.c (Value.int IntKind.i64 (-18000)), Eng.V.c (Value.bool false), Eng.V.c (Value.string (ByteArray.mk #[(69 : UInt8), (83 : UInt8), (84 : UInt8)]))], Eng.V.agg [Eng.V.c (Value.int IntKind.i64 (-14400)), Eng.V.c (Value.bool true), Eng.V.c (Value.string (ByteArray.mk #[(69 : UInt8), (68 : UInt8), (84 : UInt8)]))]], [Eng.V.agg [Eng.V.c (Value.int IntKind.i64 100), Eng.V.c (Value.int IntKind.i64 1)], Eng.V.agg [Eng.V.c (Value.int IntKind.i64 200), Eng.V.c (Value.int IntKind.i64 0)]], [], ByteArray.mk #[], 2, ()) (fun r11 =>
 (if r11 then
 xzone_Right ([Eng.V.agg [Eng.V.c (Value.int IntKind.i64 (-18000)), Eng.V.c (Value.bool false), Eng.V.c (Value.string (ByteArray.mk #[(69 : UInt8), (83 : UInt8), (84 : UInt8)]))], Eng.V.agg [Eng.V.c (Value.int IntKind.i64 (-14400)), Eng.V.c (Value.bool true), Eng.V.c (Value.string (ByteArray.mk #[(69 : UInt8), (68 : UInt8), (84 : UInt8)]))]], [Eng.V.agg [Eng.V.c (Value.int IntKind.i64 100), Eng.V.c (Value.int IntKind.i64 1)], Eng.V.agg [Eng.V.c (Value.int IntKind.i64 200), Eng.V.c (Value.int IntKind.i64 0)]], [], ByteArray.mk #[(69 : UInt8), (83 : UInt8), (84 : UInt8), (53 : UInt8), (69 : UInt8), (68 : UInt8), (84 : UInt8), (44 : UInt8), (77 : UInt8), (51 : UInt8), (46 : UInt8), (50 : UInt8), (46 : UInt8), (48 : UInt8), (47 : UInt8), (45 : UInt8), (49 : UInt8), (44 : UInt8), (77 : UInt8), (49 : UInt8), (49 : UInt8), (46 : UInt8), (49 : UInt8), (46 : UInt8), (48 : UInt8)], 2, ()) (fun r12 =>
 (if (!r12) then
 xzone_Right ([], [], [], ByteArray.mk #[], 0, ()) (fun r13 =>
 (if (!r13) then
 xzone_Right ([Eng.V.agg [Eng.V.c (Value.int IntKind.i64 (-18000)), Eng.V.c (Value.bool false), Eng.V.c (Value.string (ByteArray.mk #[(69 : UInt8), (83 : UInt8), (84 : UInt8)]))], Eng.V.agg [Eng.V.c (Value.int IntKind.i64 (-14400)), Eng.V.c (Value.bool true), Eng.V.c (Value.string (ByteArray.mk #[(69 : UInt8), (68 : UInt8), (84 : UInt8)]))]], [Eng.V.agg [Eng.V.c (Value.int IntKind.i64 100), Eng.V.c (Value.int IntKind.i64 1)], Eng.V.agg [Eng.V.c (Value.int IntKind.i64 200), Eng.V.c (Value.int IntKind.i64 0)]], [Eng.V.agg [Eng.V.c (Value.int IntKind.i64 78796800), Eng.V.c (Value.int IntKind.i64 1)]], ByteArray.mk #[], 2, ()) (fun r14 =>
 (if r14 then
 xzone_Index ([Eng.V.agg [Eng.V.c (Value.int IntKind.i64 (-18000)), Eng.V.c (Value.bool false), Eng.V.c (Value.string (ByteArray.mk #[(69 : UInt8), (83 : UInt8), (84 : UInt8)]))], Eng.V.agg [Eng.V.c (Value.int IntKind.i64 (-14400)), Eng.V.c (Value.bool true), Eng.V.c (Value.string (ByteArray.mk #[(69 : UInt8), (68 : UInt8), (84 : UInt8)]))]], [Eng.V.agg [Eng.V.c (Value.int IntKind.i64 100), Eng.V.c (Value.int IntKind.i64 1)], Eng.V.agg [Eng.V.c (Value.int IntKind.i64 200), Eng.V.c (Value.int IntKind.i64 0)]], [], ByteArray.mk #[(69 : UInt8), (83 : UInt8), (84 : UInt8), (53 : UInt8), (69 : UInt8), (68 : UInt8), (84 : UInt8), (44 : UInt8), (77 : UInt8), (51 : UInt8), (46 : UInt8), (50 : UInt8), (46 : UInt8), (48 : UInt8), (44 : UInt8), (77 : UInt8), (49 : UInt8), (49 : UInt8), (46 : UInt8), (49 : UInt8), (46 : UInt8), (48 : UInt8)], 2, ()) 99 (fun r15 =>
 (if (r15 == (-1)) then
 xzone_Index ([Eng.V.agg [Eng.V.c (Value.int IntKind.i64 (-18000)), Eng.V.c (Value.bool false), Eng.V.c (Value.string (ByteArray.mk #[(69 : UInt8), (83 : UInt8), (84 : UInt8)]))], Eng.V.agg [Eng.V.c (Value.int IntKind.i64 (-14400)), Eng.V.c (Value.bool true), Eng.V.c (Value.string (ByteArray.mk #[(69 : UInt8), (68 : UInt8), (84 : UInt8)]))]], [Eng.V.agg [Eng.V.c (Value.int IntKind.i64 100), Eng.V.c (Value.int IntKind.i64 1)], Eng.V.agg [Eng.V.c (Value.int IntKind.i64 200), Eng.V.c (Value.int IntKind.i64 0)]], [], ByteArray.mk #[(69 : UInt8), (83 : UInt8), (84 : UInt8), (53 : UInt8), (69 : UInt8), (68 : UInt8), (84 : UInt8), (44 : UInt8), (77 : UInt8), (51 : UInt8), (46 : UInt8), (50 : UInt8), (46 : UInt8), (48 : UInt8), (44 : UInt8), (77 : UInt8), (49 : UInt8), (49 : UInt8), (46 : UInt8), (49 : UInt8), (46 : UInt8), (48 : UInt8)], 2, ()) 100 (fun r16 =>
 (if (r16 == 0) then
 xzone_Index ([Eng.V.agg [Eng.V.c (Value.int IntKind.i64 (-18000)), Eng.V.c (Value.bool false), Eng.V.c (Value.string (ByteArray.mk #[(69 : UInt8), (83 : UInt8), (84 : UInt8)]))], Eng.V.agg [Eng.V.c (Value.int IntKind.i64 (-14400)), Eng.V.c (Value.bool true), Eng.V.c (Value.string (ByteArray.mk #[(69 : UInt8), (68 : UInt8), (84 : UInt8)]))]], [Eng.V.agg [Eng.V.c (Value.int IntKind.i64 100), Eng.V.c (Value.int IntKind.i64 1)], Eng.V.agg [Eng.V.c (Value.int IntKind.i64 200), Eng.V.c (Value.int IntKind.i64 0)]], [], ByteArray.mk #[(69 : UInt8), (83 : UInt8), (84 : UInt8), (53 : UInt8), (69 : UInt8), (68 : UInt8), (84 : UInt8), (44 : UInt8), (77 : UInt8), (51 : UInt8), (46 : UInt8), (50 : UInt8), (46 : UInt8), (48 : UInt8), (44 : UInt8), (77 : UInt8), (49 : UInt8), (49 : UInt8), (46 : UInt8), (49 : UInt8), (46 : UInt8), (48 : UInt8)], 2, ()) 300 (fun r17 =>
 (if (r17 == 1) then
 xzone_Lookup ([Eng.V.agg [Eng.V.c (Value.int IntKind.i64 (-18000)), Eng.V.c (Value.bool false), Eng.V.c (Value.string (ByteArray.mk #[(69 : UInt8), (83 : UInt8), (84 : UInt8)]))], Eng.V.agg [Eng.V.c (Value.int IntKind.i64 (-14400)), Eng.V.c (Value.bool true), Eng.V.c (Value.string (ByteArray.mk #[(69 : UInt8), (68 : UInt8), (84 : UInt8)]))]], [Eng.V.agg [Eng.V.c (Value.int IntKind.i64 100), Eng.V.c (Value.int IntKind.i64 1)], Eng.V.agg [Eng.V.c (Value.int IntKind.i64 200), Eng.V.c (Value.int IntKind.i64 0)]], [], ByteArray.mk #[(69 : UInt8), (83 : UInt8), (84 : UInt8), (53 : UInt8), (69 : UInt8), (68 : UInt8), (84 : UInt8), (44 : UInt8), (77 : UInt8), (51 : UInt8), (46 : UInt8), (50 : UInt8), (46 : UInt8), (48 : UInt8), (44 : UInt8), (77 : UInt8), (49 : UInt8), (49 : UInt8), (46 : UInt8), (49 : UInt8), (46 : UInt8), (48 : UInt8)], 2, ()) 50 (fun r18 =>
 (lt (r18.1 == (-18000) && (r18.2.1 == false && (ByteArray.toList r18.2.2.1 == ByteArray.toList (ByteArray.mk #[(69 : UInt8), (83 : UInt8), (84 : UInt8)]) && true))) fun v19 =>
 (if v19 then
 xzone_Lookup ([Eng.V.agg [Eng.V.c (Value.int IntKind.i64 (-18000)), Eng.V.c (Value.bool false), Eng.V.c (Value.string (ByteArray.mk #[(69 : UInt8), (83 : UInt8), (84 : UInt8)]))], Eng.V.agg [Eng.V.c (Value.int IntKind.i64 (-14400)), Eng.V.c (Value.bool true), Eng.V.c (Value.string (ByteArray.mk #[(69 : UInt8), (68 : UInt8), (84 : UInt8)]))]], [Eng.V.agg [Eng.V.c (Value.int IntKind.i64 100), Eng.V.c (Value.int IntKind.i64 1)], Eng.V.agg [Eng.V.c (Value.int IntKind.i64 200), Eng.V.c (Value.int IntKind.i64 0)]], [], ByteArray.mk #[(69 : UInt8), (83 : UInt8), (84 : UInt8), (53 : UInt8), (69 : UInt8), (68 : UInt8), (84 : UInt8), (44 : UInt8), (77 : UInt8), (51 : UInt8), (46 : UInt8), (50 : UInt8), (46 : UInt8), (48 : UInt8), (44 : UInt8), (77 : UInt8), (49 : UInt8), (49 : UInt8), (46 : UInt8), (49 : UInt8), (46 : UInt8), (48 : UInt8)], 2, ()) 150 (fun r20 =>
 (lt (r20.1 == (-14400) && (r20.2.1 == true && (ByteArray.toList r20.2.2.1 == ByteArray.toList (ByteArray.mk #[(69 : UInt8), (68 : UInt8), (84 : UInt8)]) && true))) fun v21 =>
 (if v21 then
 (dup (
 xzone_Lookup ([Eng.V.agg [Eng.V.c (Value.int IntKind.i64 (-18000)), Eng.V.c (Value.bool false), Eng.V.c (Value.string (ByteArray.mk #[(69 : UInt8), (83 : UInt8), (84 : UInt8)]))], Eng.V.agg [Eng.V.c (Value.int IntKind.i64 (-14400)), Eng.V.c (Value.bool true), Eng.V.c (Value.string (ByteArray.mk #[(69 : UInt8), (68 : UInt8), (84 : UInt8)]))]], [Eng.V.agg [Eng.V.c (Value.int IntKind.i64 100), Eng.V.c (Value.int IntKind.i64 1)], Eng.V.agg [Eng.V.c (Value.int IntKind.i64 200), Eng.V.c (Value.int IntKind.i64 0)]], [], ByteArray.mk #[(69 : UInt8), (83 : UInt8), (84 : UInt8), (53 : UInt8), (69 : UInt8), (68 : UInt8), (84 : UInt8), (44 : UInt8), (77 : UInt8), (51 : UInt8), (46 : UInt8), (50 : UInt8), (46 : UInt8), (48 : UInt8), (44 : UInt8), (77 : UInt8), (49 : UInt8), (49 : UInt8), (46 : UInt8), (49 : UInt8), (46 : UInt8), (48 : UInt8)], 2, ()) 1710054000 (fun r22 =>
 (lt (r22.1 == (-14400) && (r22.2.1 == true && (ByteArray.toList r22.2.2.1 == ByteArray.toList (ByteArray.mk #[(69 : UInt8), (68 : UInt8), (84 : UInt8)]) && true))) fun v23 =>
 (if v23 then
 xzone_Lookup ([Eng.V.agg [Eng.V.c (Value.int IntKind.i64 (-18000)), Eng.V.c (Value.bool false), Eng.V.c (Value.string (ByteArray.mk #[(69 : UInt8), (83 : UInt8), (84 : UInt8)]))], Eng.V.agg [Eng.V.c (Value.int IntKind.i64 (-14400)), Eng.V.c (Value.bool true), Eng.V.c (Value.string (ByteArray.mk #[(69 : UInt8), (68 : UInt8), (84 : UInt8)]))]], [Eng.V.agg [Eng.V.c (Value.int IntKind.i64 100), Eng.V.c (Value.int IntKind.i64 1)], Eng.V.agg [Eng.V.c (Value.int IntKind.i64 200), Eng.V.c (Value.int IntKind.i64 0)]], [], ByteArray.mk #[], 2, ()) 1710054000 (fun r24 =>
 (lt (r24.1 == (-18000) && (r24.2.1 == false && (ByteArray.toList r24.2.2.1 == ByteArray.toList (ByteArray.mk #[(69 : UInt8), (83 : UInt8), (84 : UInt8)]) && true))) fun v25 =>
 (if v25 then
 xzone_Posix ([Eng.V.agg [Eng.V.c (Value.int IntKind.i64 (-18000)), Eng.V.c (Value.bool false), Eng.V.c (Value.string (ByteArray.mk #[(69 : UInt8), (83 : UInt8), (84 : UInt8)]))], Eng.V.agg [Eng.V.c (Value.int IntKind.i64 (-14400)), Eng.V.c (Value.bool true), Eng.V.c (Value.string (ByteArray.mk #[(69 : UInt8), (68 : UInt8), (84 : UInt8)]))]], [Eng.V.agg [Eng.V.c (Value.int IntKind.i64 100), Eng.V.c (Value.int IntKind.i64 1)], Eng.V.agg [Eng.V.c (Value.int IntKind.i64 200), Eng.V.c (Value.int IntKind.i64 0)]], [Eng.V.agg [Eng.V.c (Value.int IntKind.i64 78796800), Eng.V.c (Value.int IntKind.i64 1)]], ByteArray.mk #[], 2, ()) 78796800 (fun r26 =>
 (if (r26 == 78796799) then
 xzone_Posix ([Eng.V.agg [Eng.V.c (Value.int IntKind.i64 (-18000)), Eng.V.c (Value.bool false), Eng.V.c (Value.string (ByteArray.mk #[(69 : UInt8), (83 : UInt8), (84 : UInt8)]))], Eng.V.agg [Eng.V.c (Value.int IntKind.i64 (-14400)), Eng.V.c (Value.bool true), Eng.V.c (Value.string (ByteArray.mk #[(69 : UInt8), (68 : UInt8), (84 : UInt8)]))]], [Eng.V.agg [Eng.V.c (Value.int IntKind.i64 100), Eng.V.c (Value.int IntKind.i64 1)], Eng.V.agg [Eng.V.c (Value.int IntKind.i64 200), Eng.V.c (Value.int IntKind.i64 0)]], [Eng.V.agg [Eng.V.c (Value.int IntKind.i64 78796800), Eng.V.c (Value.int IntKind.i64 1)]], ByteArray.mk #[], 2, ()) 78796799 (fun r27 =>
 (if (r27 == 78796799) then
 xzone_Same (r1, List.set r4 (0 : Nat) (Eng.setE (List.getD r4 (0 : Nat) Eng.V.bad) (0 : Nat) [Eng.V.c (Value.int IntKind.i64 5)]), r7, r0.2.2.2) ([Eng.V.agg [Eng.V.c (Value.int IntKind.i64 (-18000)), Eng.V.c (Value.bool false), Eng.V.c (Value.string (ByteArray.mk #[(69 : UInt8), (83 : UInt8), (84 : UInt8)]))], Eng.V.agg [Eng.V.c (Value.int IntKind.i64 (-14400)), Eng.V.c (Value.bool true), Eng.V.c (Value.string (ByteArray.mk #[(69 : UInt8), (68 : UInt8), (84 : UInt8)]))]], [Eng.V.agg [Eng.V.c (Value.int IntKind.i64 100), Eng.V.c (Value.int IntKind.i64 1)], Eng.V.agg [Eng.V.c (Value.int IntKind.i64 200), Eng.V.c (Value.int IntKind.i64 0)]], [], ByteArray.mk #[(69 : UInt8), (83 : UInt8), (84 : UInt8), (53 : UInt8), (69 : UInt8), (68 : UInt8), (84 : UInt8), (44 : UInt8), (77 : UInt8), (51 : UInt8), (46 : UInt8), (50 : UInt8), (46 : UInt8), (48 : UInt8), (44 : UInt8), (77 : UInt8), (49 : UInt8), (49 : UInt8), (46 : UInt8), (49 : UInt8), (46 : UInt8), (48 : UInt8)], 2, ()) (fun r28 =>
 (if (!r28) then
 xzone_Copy ([Eng.V.agg [Eng.V.c (Value.int IntKind.i64 (-18000)), Eng.V.c (Value.bool false), Eng.V.c (Value.string (ByteArray.mk #[(69 : UInt8), (83 : UInt8), (84 : UInt8)]))], Eng.V.agg [Eng.V.c (Value.int IntKind.i64 (-14400)), Eng.V.c (Value.bool true), Eng.V.c (Value.string (ByteArray.mk #[(69 : UInt8), (68 : UInt8), (84 : UInt8)]))]], [Eng.V.agg [Eng.V.c (Value.int IntKind.i64 100), Eng.V.c (Value.int IntKind.i64 1)], Eng.V.agg [Eng.V.c (Value.int IntKind.i64 200), Eng.V.c (Value.int IntKind.i64 0)]], [], ByteArray.mk #[(69 : UInt8), (83 : UInt8), (84 : UInt8), (53 : UInt8), (69 : UInt8), (68 : UInt8), (84 : UInt8), (44 : UInt8), (77 : UInt8), (51 : UInt8), (46 : UInt8), (50 : UInt8), (46 : UInt8), (48 : UInt8), (44 : UInt8), (77 : UInt8), (49 : UInt8), (49 : UInt8), (46 : UInt8), (49 : UInt8), (46 : UInt8), (48 : UInt8)], 2, ()) (fun r29 r30 r31 r32 r33 r34 r35 r36 r37 r38 =>
 xzone_Same (r30, r33, r36, r29.2.2.2) ([Eng.V.agg [Eng.V.c (Value.int IntKind.i64 (-18000)), Eng.V.c (Value.bool false), Eng.V.c (Value.string (ByteArray.mk #[(69 : UInt8), (83 : UInt8), (84 : UInt8)]))], Eng.V.agg [Eng.V.c (Value.int IntKind.i64 (-14400)), Eng.V.c (Value.bool true), Eng.V.c (Value.string (ByteArray.mk #[(69 : UInt8), (68 : UInt8), (84 : UInt8)]))]], [Eng.V.agg [Eng.V.c (Value.int IntKind.i64 100), Eng.V.c (Value.int IntKind.i64 1)], Eng.V.agg [Eng.V.c (Value.int IntKind.i64 200), Eng.V.c (Value.int IntKind.i64 0)]], [], ByteArray.mk #[(69 : UInt8), (83 : UInt8), (84 : UInt8), (53 : UInt8), (69 : UInt8), (68 : UInt8), (84 : UInt8), (44 : UInt8), (77 : UInt8), (51 : UInt8), (46 : UInt8), (50 : UInt8), (46 : UInt8), (48 : UInt8), (44 : UInt8), (77 : UInt8), (49 : UInt8), (49 : UInt8), (46 : UInt8), (49 : UInt8), (46 : UInt8), (48 : UInt8)], 2, ()) (fun r39 =>
 K r39))
 else
 K false))
 else
 K false))
 else
 K false))
 else
 K false)))
 else
 K false)))))
 else
 (dup (
 K false)))))
 else
 (dup (
 K false)))))
 else
 (dup (
 K false))))
 else
 (dup (
 K false))))
 else
 (dup (
 K false))))
 else
 (dup (
 K false))))
 else
 (dup (
 K false))))
 else
 (dup (
 K false))))
 else
 (dup (
 K false))))
 else
 (dup (
 K false))))
 else
 False)
 else
 False)
 else
 False)))
def Xepactlaw19_small : Tepactlaw19_small := Yepactlaw19_small Xzone_Copy Xzone_Right Xzone_Index Xzone_Lookup Xzone_Posix Xzone_Same
def Jepactlaw19_small (X : Tepactlaw19_small) : Inst := mkI 18 .nil .nil upL9 .nil X
def Iepactlaw19_small : Inst := Jepactlaw19_small Xepactlaw19_small
theorem Eepactlaw19_small (xzone_Copy : Tzone_Copy) (xzone_Right : Tzone_Right) (xzone_Index : Tzone_Index) (xzone_Lookup : Tzone_Lookup) (xzone_Posix : Tzone_Posix) (xzone_Same : Tzone_Same) : EqF Tryz.prog 129 gives Tryz.f18 [Jzone_Copy xzone_Copy, Jzone_Right xzone_Right, Jzone_Index xzone_Index, Jzone_Lookup xzone_Lookup, Jzone_Posix xzone_Posix, Jzone_Same xzone_Same] [] (Jepactlaw19_small (Yepactlaw19_small xzone_Copy xzone_Right xzone_Index xzone_Lookup xzone_Posix xzone_Same)) := fun x y K => by kernel_rfl
theorem Iepactlaw19_small_ok : InstOk Tryz.prog G.1 Iepactlaw19_small := iok (gives := gives) [] (okCons Izone_Copy_ok (okCons Izone_Right_ok (okCons Izone_Index_ok (okCons Izone_Lookup_ok (okCons Izone_Posix_ok (okCons Izone_Same_ok okNil)))))) 129 follows Tryz.func18 (by kernel_rfl) (fun x => by kernel_rfl) (Eepactlaw19_small Xzone_Copy Xzone_Right Xzone_Index Xzone_Lookup Xzone_Posix Xzone_Same)
abbrev Tepactlaw19_ZoneBytes : Type := uQ58 → (Bool → Prop) → Prop
def Yepactlaw19_ZoneBytes (xepactlaw19_small : Tepactlaw19_small) (xepactlaw16_Few : Tepactlaw16_Few) (xzone_Right : Tzone_Right) (xblock_Encode : Tblock_Encode) (xblock_Count : Tblock_Count) (xblock_Decode : Tblock_Decode) (xzone_Same : Tzone_Same) (a0 : uQ58) (K : Bool → Prop) : Prop :=
 xepactlaw19_small (fun r1 =>
 xepactlaw16_Few a0 (fun r2 =>
 (if (!r2) then
 K r1
 else
 xzone_Right a0 (fun r3 =>
 (if (!r3) then
 K r1
 else
 xblock_Encode a0 8 (fun r4 r5 r6 r7 =>
 xblock_Count a0 (fun r8 r9 =>
 xblock_Decode r8 r5 8 (fun r10 r11 r12 r13 r14 r15 r16 r17 r18 r19 r20 =>
 (if r1 then
 (if r4 then
 (if r9 then
 (if r11 then
 xzone_Right (r12, r15, r18, r10.2.2.2) (fun r21 =>
 (if r21 then
 xzone_Same (r12, r15, r18, r10.2.2.2) (a0.1, a0.2.1, a0.2.2.1, ByteArray.mk #[], a0.2.2.2.2) (fun r22 =>
 K r22)
 else
 K false))
 else
 K false)
 else
 K false)
 else
 K false)
 else
 K false)))))))))
def Xepactlaw19_ZoneBytes : Tepactlaw19_ZoneBytes := Yepactlaw19_ZoneBytes Xepactlaw19_small Xepactlaw16_Few Xzone_Right Xblock_Encode Xblock_Count Xblock_Decode Xzone_Same
def Jepactlaw19_ZoneBytes (X : Tepactlaw19_ZoneBytes) : Inst := mkI 6 upL74 .nil upL9 .nil X
def Iepactlaw19_ZoneBytes : Inst := Jepactlaw19_ZoneBytes Xepactlaw19_ZoneBytes
theorem Eepactlaw19_ZoneBytes (xepactlaw19_small : Tepactlaw19_small) (xepactlaw16_Few : Tepactlaw16_Few) (xzone_Right : Tzone_Right) (xblock_Encode : Tblock_Encode) (xblock_Count : Tblock_Count) (xblock_Decode : Tblock_Decode) (xzone_Same : Tzone_Same) : EqF Tryz.prog 60 gives Tryz.f6 [Jepactlaw19_small xepactlaw19_small, Jepactlaw16_Few xepactlaw16_Few, Jzone_Right xzone_Right, Jblock_Encode xblock_Encode, Jblock_Count xblock_Count, Jblock_Decode xblock_Decode, Jzone_Same xzone_Same] [] (Jepactlaw19_ZoneBytes (Yepactlaw19_ZoneBytes xepactlaw19_small xepactlaw16_Few xzone_Right xblock_Encode xblock_Count xblock_Decode xzone_Same)) := fun x y K => by kernel_rfl
theorem Iepactlaw19_ZoneBytes_ok : InstOk Tryz.prog G.1 Iepactlaw19_ZoneBytes := iok (gives := gives) [] (okCons Iepactlaw19_small_ok (okCons Iepactlaw16_Few_ok (okCons Izone_Right_ok (okCons Iblock_Encode_ok (okCons Iblock_Count_ok (okCons Iblock_Decode_ok (okCons Izone_Same_ok okNil))))))) 60 follows Tryz.func6 (by kernel_rfl) (fun x => by kernel_rfl) (Eepactlaw19_ZoneBytes Xepactlaw19_small Xepactlaw16_Few Xzone_Right Xblock_Encode Xblock_Count Xblock_Decode Xzone_Same)
end Go.Proofs.YtbnpclndiichcaaGreatDoor
end
section
set_option linter.unusedVariables false
set_option linter.unusedSimpArgs false
set_option linter.unusedVariables false
namespace Go.Proofs.YtbnpclndiichcaaGreatDoor
open Go Go.Proofs.YtbnpclndiichcaaGreatDoor.Eng
abbrev akZoneBytes0 : AK := (.st (.cons (.sl (.st (.cons (.int .i64) (.cons .bool (.cons .str .nil))))) (.cons (.sl (.st (.cons (.int .i64) (.cons (.int .i64) .nil)))) (.cons (.sl (.st (.cons (.int .i64) (.cons (.int .i64) .nil)))) (.cons .str (.cons (.int .i64) .nil))))))
/-- The law over plain data. -/
def PureZoneBytes : Prop := ∀ (a0 : akZoneBytes0.T) (h0 : akZoneBytes0.good a0), Xepactlaw19_ZoneBytes (akZoneBytes0.DV a0) (fun b => b = true)
end Go.Proofs.YtbnpclndiichcaaGreatDoor
end
section
set_option linter.unusedVariables false
set_option linter.unusedSimpArgs false
namespace Go.Proofs.YtbnpclndiichcaaGreatDoor.Pl
open Go
set_option linter.unusedVariables false
set_option linter.unusedSimpArgs false
def digsN : Nat → Nat → List UInt8
  | 0, _ => []
  | k + 1, u => if u < 10 then [UInt8.ofNat (48 + u)] else digsN k (u / 10) ++ [UInt8.ofNat (48 + u % 10)]
def itoaK (n : Int) : List UInt8 := if n < 0 then 45 :: digsN 20 n.natAbs else digsN 20 n.toNat
def isDig (c : UInt8) : Bool := 48 ≤ c.toNat && c.toNat ≤ 57
/-- A text out of a list. -/
abbrev S (l : List UInt8) : ByteArray := ⟨l.toArray⟩
theorem S_size (l : List UInt8) : (S l).size = l.length := by simp [S, ByteArray.size]
theorem S_append (a b : List UInt8) : S a ++ S b = S (a ++ b) := ByteArray.mk_append_mk a b
theorem S_toList (l : List UInt8) : (S l).toList = l := ByteArray.toList_mk l
theorem S_data (l : List UInt8) : (S l).data.toList = l := by simp [S]
theorem S_extract (l : List UInt8) (a b : Nat) : (S l).extract a b = S ((l.drop a).take (b - a)) := by rw [Lib.extract_eq, S_data]
theorem u8_eq {a b : UInt8} (h : a.toNat = b.toNat) : a = b := UInt8.toNat_inj.1 h
/-- How many digits a list begins with. -/
def dl (l : List UInt8) : Nat := (l.takeWhile isDig).length
theorem dl_le (l : List UInt8) : dl l ≤ l.length := by unfold dl; exact (List.takeWhile_sublist _).length_le
theorem dl_cons (c : UInt8) (l : List UInt8) : dl (c :: l) = if isDig c = true then dl l + 1 else 0 := by
  unfold dl; rw [List.takeWhile_cons]; split <;> simp
/-- The number of a row of digits. -/
def valL (l : List UInt8) : Nat := l.foldl (fun n c => 10 * n + (c.toNat - 48)) 0
theorem decFrom_val : ∀ (l : List UInt8) (acc : Nat), (∀ c ∈ l, isDig c = true) → Lib.decFrom acc l = some (l.foldl (fun n c => 10 * n + (c.toNat - 48)) acc)
  | [], acc, _ => rfl
  | c :: l, acc, h => by
    have hc : isDig c = true := h c (by simp)
    unfold isDig at hc
    simp at hc
    unfold Lib.decFrom Lib.digitVal
    rw [if_pos hc]
    simp only []
    rw [decFrom_val l _ (fun c' hc' => h c' (by simp [hc'])), List.foldl_cons, Nat.mul_comm]
theorem atoi_val (l : List UInt8) (hne : l ≠ []) (h : ∀ c ∈ l, isDig c = true) : Lib.atoi l = some (valL l : Int) := by
  cases l with
  | nil => exact absurd rfl hne
  | cons c r =>
    have hc : isDig c = true := h c (by simp)
    unfold isDig at hc
    simp at hc
    have h1 : (c == 45) = false := by rw [beq_eq_false_iff_ne]; rintro rfl; simp at hc
    have h2 : (c == 43) = false := by rw [beq_eq_false_iff_ne]; rintro rfl; simp at hc
    simp only [Lib.atoi, Lib.decNat, h1, h2, Bool.false_eq_true, if_false, List.isEmpty_cons]
    rw [decFrom_val _ _ h]
    rfl
theorem take_dl_dig (l : List UInt8) (k : Nat) (h : k ≤ dl l) : ∀ c ∈ l.take k, isDig c = true := by
  intro c hc
  have hs : l.take k = (l.takeWhile isDig).take k := by
    conv => lhs; rw [← List.takeWhile_append_dropWhile (p := isDig) (l := l)]
    rw [List.take_append_of_le_length h]
  rw [hs] at hc
  have hall : (l.takeWhile isDig).all isDig = true := List.all_takeWhile
  exact List.all_eq_true.1 hall c (List.mem_of_mem_take hc)
end Go.Proofs.YtbnpclndiichcaaGreatDoor.Pl
end
section
set_option linter.unusedVariables false
set_option linter.unusedSimpArgs false
namespace Go.Proofs.YtbnpclndiichcaaGreatDoor.Pl
open Go
set_option linter.unusedVariables false
set_option linter.unusedSimpArgs false
/-- What stands behind a colon: minutes, or seconds. -/
def sixtyL : List UInt8 → Int × List UInt8 × Bool
  | c :: a :: b :: r => if c = 58 ∧ isDig a = true ∧ isDig b = true ∧ a.toNat ≤ 53 then (10 * (a.toNat - 48) + (b.toNat - 48), r, true) else (0, c :: a :: b :: r, false)
  | l => (0, l, false)
theorem foldl_lt : ∀ (l : List UInt8) (acc : Nat), (∀ c ∈ l, isDig c = true) → l.foldl (fun n c => 10 * n + (c.toNat - 48)) acc < (acc + 1) * 10 ^ l.length
  | [], acc, _ => by simp
  | c :: l, acc, h => by
    have hc : isDig c = true := h c (by simp)
    unfold isDig at hc
    simp at hc
    have := foldl_lt l (10 * acc + (c.toNat - 48)) (fun c' hc' => h c' (by simp [hc']))
    rw [List.foldl_cons, List.length_cons, Nat.pow_succ]
    refine Nat.lt_of_lt_of_le this ?_
    have h1 : (10 * acc + (c.toNat - 48) + 1) ≤ (acc + 1) * 10 := by omega
    calc (10 * acc + (c.toNat - 48) + 1) * 10 ^ l.length ≤ ((acc + 1) * 10) * 10 ^ l.length := Nat.mul_le_mul_right _ h1
      _ = (acc + 1) * (10 ^ l.length * 10) := by rw [Nat.mul_assoc, Nat.mul_comm 10]
theorem valL_lt (l : List UInt8) (h : ∀ c ∈ l, isDig c = true) : valL l < 10 ^ l.length := by
  have := foldl_lt l 0 h
  simpa [valL] using this
theorem sixty_bd (l : List UInt8) : 0 ≤ (sixtyL l).1 ∧ (sixtyL l).1 ≤ 59 := by
  unfold sixtyL
  split
  · split
    · rename_i h
      obtain ⟨_, ha, hb, h5⟩ := h
      unfold isDig at ha hb
      simp at ha hb
      simp only []
      omega
    · simp
  · simp
/-- A time. -/
def signL : List UInt8 → Int × List UInt8
  | [] => (1, [])
  | c :: r => if c = 45 then (-1, r) else if c = 43 then (1, r) else (1, c :: r)
def hourL (t : List UInt8) : Nat × Nat :=
  if valL (t.take (min (dl t) 3)) > 167 then (valL (t.take (min (dl t) 3)) / 10, min (dl t) 3 - 1) else (valL (t.take (min (dl t) 3)), min (dl t) 3)
def moreL (p : Int × List UInt8 × Bool) : Int × List UInt8 × Bool := if p.2.2 = true then sixtyL p.2.1 else (0, p.2.1, false)
def timeL (l : List UInt8) : Int × List UInt8 × Bool :=
  if dl (signL l).2 = 0 then (0, l, false)
  else
    ((signL l).1 * ((hourL (signL l).2).1 * 3600 + (sixtyL ((signL l).2.drop (hourL (signL l).2).2)).1 * 60 + (moreL (sixtyL ((signL l).2.drop (hourL (signL l).2).2))).1),
      (moreL (sixtyL ((signL l).2.drop (hourL (signL l).2).2))).2.1, true)
theorem hour_bd (t : List UInt8) : (hourL t).1 ≤ 167 ∧ (hourL t).2 ≤ dl t ∧ (hourL t).2 ≤ 3 ∧ (dl t ≠ 0 → 1 ≤ (hourL t).2) := by
  have hv : valL (t.take (min (dl t) 3)) < 10 ^ (t.take (min (dl t) 3)).length := valL_lt _ (take_dl_dig t _ (Nat.min_le_left _ _))
  have hl : (t.take (min (dl t) 3)).length ≤ 3 := by rw [List.length_take]; omega
  have h3 : 10 ^ (t.take (min (dl t) 3)).length ≤ 10 ^ 3 := Nat.pow_le_pow_right (by omega) hl
  have hm : min (dl t) 3 ≤ dl t := Nat.min_le_left _ _
  have hm3 : min (dl t) 3 ≤ 3 := Nat.min_le_right _ _
  unfold hourL
  split
  · rename_i hgt
    refine ⟨by simp only []; omega, by simp only []; omega, by simp only []; omega, fun h0 => ?_⟩
    simp only []
    have : ¬ (t.take (min (dl t) 3)).length ≤ 1 := fun h1 => by
      have : 10 ^ (t.take (min (dl t) 3)).length ≤ 10 ^ 1 := Nat.pow_le_pow_right (by omega) h1
      omega
    rw [List.length_take] at this
    omega
  · refine ⟨by simp only []; omega, by simp only []; omega, by simp only []; omega, fun h0 => by simp only []; omega⟩
def pairL (m : Nat) : List UInt8 := 58 :: (digsN 20 (m / 10) ++ digsN 20 (m % 10))
/-- The text of a time. -/
def clockB (a : Nat) : List UInt8 := digsN 20 (a / 3600) ++ (if a % 60 ≠ 0 then pairL (a / 60 % 60) ++ pairL (a % 60) else if a / 60 % 60 ≠ 0 then pairL (a / 60 % 60) else [])
def clockL (sec : Int) : List UInt8 × Bool := if -604799 ≤ sec ∧ sec ≤ 604799 then ((if sec < 0 then [45] else []) ++ clockB sec.natAbs, true) else ([], false)
theorem sixty_drop (l : List UInt8) : ∃ j, j ≤ l.length ∧ (sixtyL l).2.1 = l.drop j := by
  unfold sixtyL
  split
  · split
    · exact ⟨3, by simp, rfl⟩
    · exact ⟨0, by simp, rfl⟩
  · exact ⟨0, by simp, rfl⟩
theorem sign_drop (l : List UInt8) : ∃ j, j ≤ l.length ∧ (signL l).2 = l.drop j ∧ ((signL l).1 = 1 ∨ (signL l).1 = -1) := by
  unfold signL
  split
  · exact ⟨0, by simp, rfl, .inl rfl⟩
  · split
    · exact ⟨1, by simp, rfl, .inr rfl⟩
    · split
      · exact ⟨1, by simp, rfl, .inl rfl⟩
      · exact ⟨0, by simp, rfl, .inl rfl⟩
theorem time_drop (l : List UInt8) : ∃ j, j ≤ l.length ∧ (timeL l).2.1 = l.drop j ∧ ((timeL l).2.2 = true ↔ 0 < j) ∧ -604799 ≤ (timeL l).1 ∧ (timeL l).1 ≤ 604799 ∧ ((timeL l).2.2 = false → (timeL l).1 = 0 ∧ j = 0) := by
  obtain ⟨j0, h0, e0, hs⟩ := sign_drop l
  unfold timeL
  by_cases hd : dl (signL l).2 = 0
  · rw [if_pos hd]
    exact ⟨0, by omega, by simp, by simp, by simp, by simp, by simp⟩
  · rw [if_neg hd]
    obtain ⟨b1, b2, b3, b4⟩ := hour_bd (signL l).2
    have b4' := b4 hd
    have hdl := dl_le (signL l).2
    obtain ⟨j1, h1, e1⟩ := sixty_drop ((signL l).2.drop (hourL (signL l).2).2)
    have s1 := sixty_bd ((signL l).2.drop (hourL (signL l).2).2)
    have key : ∃ j2, j2 ≤ (sixtyL ((signL l).2.drop (hourL (signL l).2).2)).2.1.length ∧ (moreL (sixtyL ((signL l).2.drop (hourL (signL l).2).2))).2.1 = (sixtyL ((signL l).2.drop (hourL (signL l).2).2)).2.1.drop j2 ∧
        0 ≤ (moreL (sixtyL ((signL l).2.drop (hourL (signL l).2).2))).1 ∧ (moreL (sixtyL ((signL l).2.drop (hourL (signL l).2).2))).1 ≤ 59 := by
      unfold moreL
      split
      · obtain ⟨j2, h2, e2⟩ := sixty_drop (sixtyL ((signL l).2.drop (hourL (signL l).2).2)).2.1
        exact ⟨j2, h2, e2, sixty_bd _⟩
      · exact ⟨0, by omega, rfl, by simp, by simp⟩
    obtain ⟨j2, h2, e2, hb1, hb2⟩ := key
    rw [e2, e1, e0, List.drop_drop, List.drop_drop, List.drop_drop]
    rw [e1] at h2
    rw [e0] at h1 h2 hdl b2
    simp only [List.length_drop] at h1 h2 hdl
    rw [e0] at b4' b3 s1 hb1 hb2
    refine ⟨_, ?_, rfl, ?_, ?_⟩
    · omega
    · simp; omega
    · generalize (sixtyL (List.drop (hourL (List.drop j0 l)).2 (List.drop j0 l))).1 = x at *
      generalize (moreL (sixtyL (List.drop (hourL (List.drop j0 l)).2 (List.drop j0 l)))).1 = y at *
      rw [e0] at b1
      generalize (hourL (List.drop j0 l)).1 = v at *
      rcases hs with hs | hs <;> rw [hs] <;> refine ⟨?_, ?_, by simp⟩ <;> omega
end Go.Proofs.YtbnpclndiichcaaGreatDoor.Pl
end
section
set_option linter.unusedVariables false
set_option linter.unusedSimpArgs false
namespace Go.Proofs.YtbnpclndiichcaaGreatDoor.Pl
open Go
set_option linter.unusedVariables false
set_option linter.unusedSimpArgs false
/-- A leap year. -/
def leapY (y : Int) : Bool := decide (y % 4 = 0 ∧ (y % 100 ≠ 0 ∨ y % 400 = 0))
/-- The number of a year's first day. -/
def fst (y : Int) : Int := 365 * (y - 1) + (y - 1) / 4 - (y - 1) / 100 + (y - 1) / 400 - 719162
/-- How many days of a common year lie ahead of a month. -/
def cum0 (m : Int) : Int := if m = 1 then 0 else if m = 2 then 31 else if m = 3 then 59 else if m = 4 then 90 else if m = 5 then 120 else if m = 6 then 151 else if m = 7 then 181 else if m = 8 then 212 else if m = 9 then 243 else if m = 10 then 273 else if m = 11 then 304 else if m = 12 then 334 else 365
def cum (y m : Int) : Int := cum0 m + if 2 < m ∧ leapY y = true then 1 else 0
def dim (y m : Int) : Int := if m = 2 then (if leapY y = true then 29 else 28) else if m = 4 then 30 else if m = 6 then 30 else if m = 9 then 30 else if m = 11 then 30 else 31
/-- The number of a date. -/
def num (y m d : Int) : Int := fst y + cum y m + d - 1
/-- A date. -/
def Vld (y m d : Int) : Prop := 1 ≤ y ∧ y ≤ 9999 ∧ 1 ≤ m ∧ m ≤ 12 ∧ 1 ≤ d ∧ d ≤ dim y m
theorem leapY_iff (y : Int) : leapY y = true ↔ (y % 4 = 0 ∧ (y % 100 ≠ 0 ∨ y % 400 = 0)) := by unfold leapY; exact decide_eq_true_iff
theorem month_cases {m : Int} (h1 : 1 ≤ m) (h2 : m ≤ 12) : m = 1 ∨ m = 2 ∨ m = 3 ∨ m = 4 ∨ m = 5 ∨ m = 6 ∨ m = 7 ∨ m = 8 ∨ m = 9 ∨ m = 10 ∨ m = 11 ∨ m = 12 := by omega
theorem dim_bd (y m : Int) : 28 ≤ dim y m ∧ dim y m ≤ 31 := by unfold dim; repeat' split <;> omega
theorem fst_succ (y : Int) : fst (y + 1) = fst y + 365 + if leapY y = true then 1 else 0 := by
  have := leapY_iff y
  unfold fst
  by_cases h : leapY y = true
  · rw [if_pos h]; have := this.1 h; omega
  · rw [if_neg h]
    have h' : ¬ (y % 4 = 0 ∧ (y % 100 ≠ 0 ∨ y % 400 = 0)) := fun z => h (this.2 z)
    omega
theorem cum_succ (y m : Int) (h1 : 1 ≤ m) (h2 : m ≤ 12) : cum y m + dim y m = if m = 12 then 365 + (if leapY y = true then 1 else 0) else cum y (m + 1) := by
  rcases month_cases h1 h2 with rfl | rfl | rfl | rfl | rfl | rfl | rfl | rfl | rfl | rfl | rfl | rfl <;>
    cases hl : leapY y <;> simp [cum, cum0, dim, hl]
theorem num_bd {y m d : Int} (h : Vld y m d) : fst y ≤ num y m d ∧ num y m d < fst (y + 1) := by
  obtain ⟨_, _, h1, h2, h3, h4⟩ := h
  rw [fst_succ]
  unfold num
  rcases month_cases h1 h2 with rfl | rfl | rfl | rfl | rfl | rfl | rfl | rfl | rfl | rfl | rfl | rfl <;>
    cases hl : leapY y <;> simp [cum, cum0, dim, hl] at h4 ⊢ <;> omega
theorem fst_bd {y : Int} (h1 : 1 ≤ y) (h2 : y ≤ 9999) : -719162 ≤ fst y ∧ fst (y + 1) ≤ 2932897 := by unfold fst; omega
theorem num_range {y m d : Int} (h : Vld y m d) : -719162 ≤ num y m d ∧ num y m d ≤ 2932896 := by
  have := num_bd h
  have := fst_bd h.1 h.2.1
  omega
/-- A date's year and month, so counted. -/
def sy (y m : Int) : Int := if m < 3 then y - 1 else y
def sm (m : Int) : Int := if m < 3 then m + 12 else m
/-- The program's own formula. -/
def numP (y m d : Int) : Int := 146097 * (sy y m / 400) + 365 * (sy y m % 400) + (sy y m % 400) / 4 - (sy y m % 400) / 100 + ((153 * (sm m - 3) + 2) / 5 + d - 1) - 719468
theorem numP_eq {y m d : Int} (h1 : 1 ≤ m) (h2 : m ≤ 12) : numP y m d = num y m d := by
  have hl := leapY_iff y
  have key : ∀ b : Bool, leapY y = b → numP y m d = num y m d := by
    intro b hb
    cases b with
    | true =>
      have hl' := hl.1 hb
      rcases month_cases h1 h2 with rfl | rfl | rfl | rfl | rfl | rfl | rfl | rfl | rfl | rfl | rfl | rfl <;>
        simp [numP, num, fst, cum, cum0, sy, sm, hb] <;> omega
    | false =>
      have hl' : ¬ (y % 4 = 0 ∧ (y % 100 ≠ 0 ∨ y % 400 = 0)) := fun z => by rw [hl.2 z] at hb; cases hb
      rcases month_cases h1 h2 with rfl | rfl | rfl | rfl | rfl | rfl | rfl | rfl | rfl | rfl | rfl | rfl <;>
        simp [numP, num, fst, cum, cum0, sy, sm, hb] <;> omega
  exact key _ rfl
/-- The first day of March-year b of an era. -/
def st (b : Int) : Int := 365 * b + b / 4 - b / 100
def gy (o : Int) : Int := o - o / 1460 + o / 36524 - o / 146096
theorem gy_mono {a b : Int} (h0 : 0 ≤ a) (h : a ≤ b) (hb : b ≤ 146096) : gy a ≤ gy b := by unfold gy; omega
theorem ends : ∀ n : Nat, n < 400 → (gy (st n) / 365 = n ∧ gy (st (n + 1) - (if n = 399 then 0 else 1)) / 365 = n) := by decide +kernel
theorem year_of {o b : Int} (h0 : 0 ≤ b) (h1 : b < 400) (h2 : st b ≤ o) (h3 : o < st (b + 1) ∨ (b = 399 ∧ o ≤ 146096)) : gy o / 365 = b := by
  obtain ⟨n, rfl⟩ := Int.eq_ofNat_of_zero_le h0
  obtain ⟨e1, e2⟩ := ends n (by omega)
  have hs0 : 0 ≤ st n := by unfold st; omega
  have hs1 : st (n + 1) ≤ 146097 := by unfold st; omega
  by_cases hn : n = 399
  · subst hn
    have hm : st ((399 : Nat) + 1) = 146096 := by decide
    rw [if_pos rfl, hm] at e2
    have ho : o ≤ 146096 := by
      rcases h3 with h3 | h3
      · have : ((399 : Nat) : Int) + 1 = 400 := rfl
        rw [this] at h3; have : st 400 = 146096 := by decide
        omega
      · exact h3.2
    have g1 := gy_mono hs0 h2 ho
    have g2 := gy_mono (by omega : 0 ≤ o) ho (Int.le_refl _)
    simp only [Int.sub_zero] at e2
    omega
  · rw [if_neg hn] at e2
    have ho : o ≤ st (n + 1) - 1 := by
      rcases h3 with h3 | h3
      · omega
      · omega
    have g1 := gy_mono hs0 h2 (by omega)
    have g2 := gy_mono (by omega : 0 ≤ o) ho (by omega)
    omega
/-- The program's own date of a number. -/
def era (n : Int) : Int := (n + 719468) / 146097
def ofE (n : Int) : Int := (n + 719468) % 146097
def yrs (n : Int) : Int := gy (ofE n) / 365
def doy (n : Int) : Int := ofE n - st (yrs n)
def mon (n : Int) : Int := (5 * doy n + 2) / 153
def dayP (n : Int) : Int := doy n - (153 * mon n + 2) / 5 + 1
def monP (n : Int) : Int := if mon n + 3 > 12 then mon n + 3 - 12 else mon n + 3
def yearP (n : Int) : Int := 400 * era n + (if mon n + 3 > 12 then yrs n + 1 else yrs n)
theorem date_num' {y m d : Int} (h : Vld y m d) : (0 ≤ doy (num y m d) ∧ doy (num y m d) ≤ 365) ∧ yearP (num y m d) = y ∧ monP (num y m d) = m ∧ dayP (num y m d) = d := by
  obtain ⟨a1, a2, h1, h2, h3, h4⟩ := h
  have hl := leapY_iff y
  rw [← numP_eq h1 h2]
  have hb : 0 ≤ sy y m % 400 ∧ sy y m % 400 < 400 := by omega
  have hdoy : 0 ≤ (153 * (sm m - 3) + 2) / 5 + d - 1 ∧ st (sy y m % 400) + ((153 * (sm m - 3) + 2) / 5 + d - 1) ≤ 146096 ∧
      (st (sy y m % 400) + ((153 * (sm m - 3) + 2) / 5 + d - 1) < st (sy y m % 400 + 1) ∨ sy y m % 400 = 399) := by
    unfold st
    cases hb' : leapY y with
    | true =>
      have hl' := hl.1 hb'
      rcases month_cases h1 h2 with rfl | rfl | rfl | rfl | rfl | rfl | rfl | rfl | rfl | rfl | rfl | rfl <;>
        simp [sy, sm, dim, hb'] at h4 ⊢ <;> omega
    | false =>
      have hl' : ¬ (y % 4 = 0 ∧ (y % 100 ≠ 0 ∨ y % 400 = 0)) := fun z => by rw [hl.2 z] at hb'; cases hb'
      rcases month_cases h1 h2 with rfl | rfl | rfl | rfl | rfl | rfl | rfl | rfl | rfl | rfl | rfl | rfl <;>
        simp [sy, sm, dim, hb'] at h4 ⊢ <;> omega
  have hst0 : 0 ≤ st (sy y m % 400) := by unfold st; omega
  have hN : numP y m d + 719468 = 146097 * (sy y m / 400) + (st (sy y m % 400) + ((153 * (sm m - 3) + 2) / 5 + d - 1)) := by unfold numP st; omega
  have hera : era (numP y m d) = sy y m / 400 := by unfold era; omega
  have hof : ofE (numP y m d) = st (sy y m % 400) + ((153 * (sm m - 3) + 2) / 5 + d - 1) := by unfold ofE; omega
  have hyrs : yrs (numP y m d) = sy y m % 400 := by
    unfold yrs
    rw [hof]
    refine year_of hb.1 hb.2 (by omega) ?_
    rcases hdoy.2.2 with h | h
    · exact .inl h
    · exact .inr ⟨h, hdoy.2.1⟩
  have hdy : doy (numP y m d) = (153 * (sm m - 3) + 2) / 5 + d - 1 := by unfold doy; rw [hof, hyrs]; omega
  have hdd := dim_bd y m
  have hmon : mon (numP y m d) = sm m - 3 := by
    unfold mon
    rw [hdy]
    rcases month_cases h1 h2 with rfl | rfl | rfl | rfl | rfl | rfl | rfl | rfl | rfl | rfl | rfl | rfl <;>
      simp [sm, dim] at h4 ⊢ <;> omega
  refine ⟨?_, ?_, ?_, ?_⟩
  · rw [hdy]
    rcases month_cases h1 h2 with rfl | rfl | rfl | rfl | rfl | rfl | rfl | rfl | rfl | rfl | rfl | rfl <;>
      simp [sm, dim] at h4 ⊢ <;> omega
  · unfold yearP
    rw [hera, hyrs, hmon]
    rcases month_cases h1 h2 with rfl | rfl | rfl | rfl | rfl | rfl | rfl | rfl | rfl | rfl | rfl | rfl <;>
      simp [sm, sy] <;> omega
  · unfold monP
    rw [hmon]
    rcases month_cases h1 h2 with rfl | rfl | rfl | rfl | rfl | rfl | rfl | rfl | rfl | rfl | rfl | rfl <;> simp [sm]
  · unfold dayP
    rw [hdy, hmon]
    omega
theorem year_ex (n : Int) (h0 : fst 1 ≤ n) : ∀ k : Nat, n < fst (1 + k) → ∃ y : Int, 1 ≤ y ∧ y ≤ k ∧ fst y ≤ n ∧ n < fst (y + 1)
  | 0, h => by simp at h; omega
  | k + 1, h => by
    by_cases h1 : n < fst (1 + k)
    · obtain ⟨y, a, b, c, d⟩ := year_ex n h0 k h1
      exact ⟨y, a, by omega, c, d⟩
    · exact ⟨1 + k, by omega, by omega, by omega, by have e : ((k + 1 : Nat) : Int) = (k : Int) + 1 := rfl; rw [e] at h; rw [Int.add_assoc]; exact h⟩
theorem month_ex (y r : Int) (h0 : 0 ≤ r) : ∀ k : Nat, k < 12 → r < cum y (1 + k) → ∃ m : Int, 1 ≤ m ∧ m ≤ k ∧ cum y m ≤ r ∧ r < cum y (m + 1)
  | 0, _, h => by simp [cum, cum0] at h; omega
  | k + 1, hk, h => by
    by_cases h1 : r < cum y (1 + k)
    · obtain ⟨m, a, b, c, d⟩ := month_ex y r h0 k (by omega) h1
      exact ⟨m, a, by omega, c, d⟩
    · exact ⟨1 + k, by omega, by omega, by omega, by have e : ((k + 1 : Nat) : Int) = (k : Int) + 1 := rfl; rw [e] at h; rw [Int.add_assoc]; exact h⟩
theorem date_ex {n : Int} (h0 : -719162 ≤ n) (h1 : n ≤ 2932896) : ∃ y m d, Vld y m d ∧ num y m d = n := by
  obtain ⟨y, a, b, c, e⟩ := year_ex n (by have : fst 1 = -719162 := by decide
                                          omega) 9999 (by have : fst (1 + (9999 : Nat)) = 2932897 := by decide
                                                          omega)
  rw [fst_succ] at e
  by_cases h : n - fst y < cum y 12
  · obtain ⟨m, a', b', c', e'⟩ := month_ex y (n - fst y) (by omega) 11 (by omega) h
    have hs := cum_succ y m a' (by omega)
    rw [if_neg (by omega)] at hs
    exact ⟨y, m, n - fst y - cum y m + 1, ⟨a, by omega, a', by omega, by omega, by omega⟩, by unfold num; omega⟩
  · have hs := cum_succ y 12 (by omega) (by omega)
    rw [if_pos rfl] at hs
    exact ⟨y, 12, n - fst y - cum y 12 + 1, ⟨a, by omega, by omega, by omega, by omega, by omega⟩, by unfold num; omega⟩
theorem doy_bd {n : Int} (h0 : -719162 ≤ n) (h1 : n ≤ 2932896) : 0 ≤ doy n ∧ doy n ≤ 365 := by
  obtain ⟨y, m, d, hv, rfl⟩ := date_ex h0 h1
  exact (date_num' hv).1
/-- A day's place in the week, from Sunday on. -/
def wk (n : Int) : Int := (n + 4) % 7
end Go.Proofs.YtbnpclndiichcaaGreatDoor.Pl
end
section
set_option linter.unusedVariables false
set_option linter.unusedSimpArgs false
namespace Go.Proofs.YtbnpclndiichcaaGreatDoor.Pl
open Go
set_option linter.unusedVariables false
set_option linter.unusedSimpArgs false
def rightR (K A B C X : Int) : Bool :=
  decide ((-604799 ≤ X ∧ X ≤ 604799) ∧ ((K = 0 ∧ 1 ≤ A ∧ A ≤ 12 ∧ 1 ≤ B ∧ B ≤ 5 ∧ 0 ≤ C ∧ C ≤ 6) ∨ (K = 1 ∧ 1 ≤ A ∧ A ≤ 365 ∧ B = 0 ∧ C = 0) ∨ (K = 2 ∧ 0 ≤ A ∧ A ≤ 365 ∧ B = 0 ∧ C = 0)))
theorem right_iff (K A B C X : Int) : rightR K A B C X = true ↔ ((-604799 ≤ X ∧ X ≤ 604799) ∧ ((K = 0 ∧ 1 ≤ A ∧ A ≤ 12 ∧ 1 ≤ B ∧ B ≤ 5 ∧ 0 ≤ C ∧ C ≤ 6) ∨ (K = 1 ∧ 1 ≤ A ∧ A ≤ 365 ∧ B = 0 ∧ C = 0) ∨ (K = 2 ∧ 0 ≤ A ∧ A ≤ 365 ∧ B = 0 ∧ C = 0))) := by
  unfold rightR; exact decide_eq_true_iff
/-- The place of a rule's day in its month, from 0 on. -/
def offW (A B C y : Int) : Int := let k := (C - wk (num y A 1) + 7) % 7 + 7 * (B - 1); if k ≥ dim y A then k - 7 else k
def ruleDay (K A B C y : Int) : Int := if K = 2 then fst y + A else if K = 1 then (if A ≤ 59 ∨ leapY y = false then fst y - 1 + A else fst y + A) else num y A 1 + offW A B C y
theorem num_first (y : Int) : num y 1 1 = fst y := by unfold num cum cum0; simp
theorem dim_jan (y : Int) : dim y 1 = 31 := rfl
theorem off_bd {A B C y : Int} (h1 : 1 ≤ B) (h2 : B ≤ 5) : 0 ≤ offW A B C y ∧ offW A B C y < dim y A ∧ offW A B C y % 7 = (C - wk (num y A 1) + 7) % 7 := by
  have hd := dim_bd y A
  have hw : 0 ≤ wk (num y A 1) ∧ wk (num y A 1) < 7 := by unfold wk; omega
  unfold offW
  simp only []
  split <;> omega
theorem ruleDay_bd {K A B C X y : Int} (hy : 1 ≤ y ∧ y ≤ 9999) (hr : rightR K A B C X = true) : fst y ≤ ruleDay K A B C y ∧ ruleDay K A B C y ≤ fst y + 365 := by
  have hr' := (right_iff K A B C X).1 hr
  unfold ruleDay
  split
  · omega
  · split
    · split <;> omega
    · have hK : K = 0 ∧ 1 ≤ A ∧ A ≤ 12 ∧ 1 ≤ B ∧ B ≤ 5 ∧ 0 ≤ C ∧ C ≤ 6 := by omega
      obtain ⟨o1, o2, _⟩ := off_bd (A := A) (C := C) (y := y) hK.2.2.2.1 hK.2.2.2.2.1
      have hv : Vld y A (offW A B C y + 1) := ⟨hy.1, hy.2, hK.2.1, hK.2.2.1, by omega, by omega⟩
      have := num_bd hv
      rw [fst_succ] at this
      have e : num y A (offW A B C y + 1) = num y A 1 + offW A B C y := by unfold num; omega
      rw [e] at this
      split at this <;> omega
def cutP (c : UInt8) (l : List UInt8) : List UInt8 × Bool := if l.head? = some c then (l.tail, true) else (l, false)
theorem cut_drop (c : UInt8) (l : List UInt8) : ∃ j, j ≤ l.length ∧ (cutP c l).1 = l.drop j := by
  unfold cutP
  split
  · cases l with
    | nil => rename_i h; simp at h
    | cons a r => exact ⟨1, by simp, rfl⟩
  · exact ⟨0, by omega, rfl⟩
/-- A number of so many digits at most. -/
def numberL (l : List UInt8) (m : Nat) : Int × List UInt8 × Bool := if dl l = 0 ∨ m < dl l then (0, l, false) else ((valL (l.take (dl l)) : Int), l.drop (dl l), true)
theorem numberL_drop (l : List UInt8) (m : Nat) : ∃ j, j ≤ l.length ∧ (numberL l m).2.1 = l.drop j ∧ ((numberL l m).2.2 = true → 0 < j) := by
  unfold numberL
  split
  · exact ⟨0, by omega, rfl, by simp⟩
  · exact ⟨dl l, dl_le l, rfl, fun _ => by omega⟩
def weekL (l : List UInt8) : Int × Int × Int × List UInt8 × Bool :=
  ((numberL l 2).1, (numberL (cutP 46 (numberL l 2).2.1).1 1).1, (numberL (cutP 46 (numberL (cutP 46 (numberL l 2).2.1).1 1).2.1).1 1).1,
    (numberL (cutP 46 (numberL (cutP 46 (numberL l 2).2.1).1 1).2.1).1 1).2.1,
    (numberL l 2).2.2 && (numberL (cutP 46 (numberL l 2).2.1).1 1).2.2 && (numberL (cutP 46 (numberL (cutP 46 (numberL l 2).2.1).1 1).2.1).1 1).2.2 && (cutP 46 (numberL l 2).2.1).2 && (cutP 46 (numberL (cutP 46 (numberL l 2).2.1).1 1).2.1).2)
theorem weekL_drop (l : List UInt8) : ∃ j, j ≤ l.length ∧ (weekL l).2.2.2.1 = l.drop j ∧ ((weekL l).2.2.2.2 = true → 0 < j) := by
  unfold weekL
  obtain ⟨j1, h1, e1, p1⟩ := numberL_drop l 2
  obtain ⟨j2, h2, e2⟩ := cut_drop 46 (numberL l 2).2.1
  obtain ⟨j3, h3, e3, _⟩ := numberL_drop (cutP 46 (numberL l 2).2.1).1 1
  obtain ⟨j4, h4, e4⟩ := cut_drop 46 (numberL (cutP 46 (numberL l 2).2.1).1 1).2.1
  obtain ⟨j5, h5, e5, _⟩ := numberL_drop (cutP 46 (numberL (cutP 46 (numberL l 2).2.1).1 1).2.1).1 1
  refine ⟨j1 + j2 + j3 + j4 + j5, ?_, ?_, ?_⟩
  · rw [e4, List.length_drop, e3, List.length_drop, e2, List.length_drop, e1, List.length_drop] at h5
    rw [e3, List.length_drop, e2, List.length_drop, e1, List.length_drop] at h4
    rw [e2, List.length_drop, e1, List.length_drop] at h3
    rw [e1, List.length_drop] at h2
    omega
  · simp only []
    rw [e5, e4, e3, e2, e1]
    simp only [List.drop_drop]
  · intro h
    simp only [Bool.and_eq_true] at h
    have := p1 h.1.1.1.1
    omega
/-- A rule without its time. -/
def dateL (l : List UInt8) : Int × Int × Int × Int × List UInt8 × Bool :=
  if l.head? = some 77 then (0, weekL l.tail) else if l.head? = some 74 then (1, (numberL l.tail 3).1, 0, 0, (numberL l.tail 3).2) else (2, (numberL l 3).1, 0, 0, (numberL l 3).2)
theorem dateL_drop (l : List UInt8) : ∃ j, j ≤ l.length ∧ (dateL l).2.2.2.2.1 = l.drop j ∧ ((dateL l).2.2.2.2.2 = true → 0 < j) := by
  unfold dateL
  by_cases h : l.head? = some 77
  · rw [if_pos h]
    obtain ⟨a, r, rfl⟩ : ∃ a r, l = a :: r := by cases l with | nil => simp at h | cons a r => exact ⟨a, r, rfl⟩
    obtain ⟨j, hj, e, _⟩ := weekL_drop r
    exact ⟨j + 1, by simp; omega, e, fun _ => by omega⟩
  · rw [if_neg h]
    by_cases h' : l.head? = some 74
    · rw [if_pos h']
      obtain ⟨a, r, rfl⟩ : ∃ a r, l = a :: r := by cases l with | nil => simp at h' | cons a r => exact ⟨a, r, rfl⟩
      obtain ⟨j, hj, e, _⟩ := numberL_drop r 3
      exact ⟨j + 1, by simp; omega, e, fun _ => by omega⟩
    · rw [if_neg h']
      exact numberL_drop l 3
/-- A rule. -/
def parseL (l : List UInt8) : Int × Int × Int × Int × Int × List UInt8 × Bool :=
  if (dateL l).2.2.2.2.2 = true then
    (if (dateL l).2.2.2.2.1.head? = some 47 then
      (if (timeL (dateL l).2.2.2.2.1.tail).2.2 = true ∧ rightR (dateL l).1 (dateL l).2.1 (dateL l).2.2.1 (dateL l).2.2.2.1 (timeL (dateL l).2.2.2.2.1.tail).1 = true then
        ((dateL l).1, (dateL l).2.1, (dateL l).2.2.1, (dateL l).2.2.2.1, (timeL (dateL l).2.2.2.2.1.tail).1, (timeL (dateL l).2.2.2.2.1.tail).2.1, true) else (0, 0, 0, 0, 0, l, false))
    else if rightR (dateL l).1 (dateL l).2.1 (dateL l).2.2.1 (dateL l).2.2.2.1 7200 = true then
      ((dateL l).1, (dateL l).2.1, (dateL l).2.2.1, (dateL l).2.2.2.1, 7200, (dateL l).2.2.2.2.1, true) else (0, 0, 0, 0, 0, l, false))
  else (0, 0, 0, 0, 0, l, false)
theorem parse_good (l : List UInt8) (h : (parseL l).2.2.2.2.2.2 = true) :
    rightR (parseL l).1 (parseL l).2.1 (parseL l).2.2.1 (parseL l).2.2.2.1 (parseL l).2.2.2.2.1 = true ∧ ∃ j, 0 < j ∧ j ≤ l.length ∧ (parseL l).2.2.2.2.2.1 = l.drop j := by
  obtain ⟨j, hj, e, hp⟩ := dateL_drop l
  revert h
  unfold parseL
  by_cases hok : (dateL l).2.2.2.2.2 = true
  · have hp := hp hok
    rw [if_pos hok]
    by_cases hc : (dateL l).2.2.2.2.1.head? = some 47
    · rw [if_pos hc]
      by_cases hR : (timeL (dateL l).2.2.2.2.1.tail).2.2 = true ∧ rightR (dateL l).1 (dateL l).2.1 (dateL l).2.2.1 (dateL l).2.2.2.1 (timeL (dateL l).2.2.2.2.1.tail).1 = true
      · rw [if_pos hR]
        intro _
        obtain ⟨i, hi, ei, _⟩ := time_drop (dateL l).2.2.2.2.1.tail
        refine ⟨hR.2, j + 1 + i, by omega, ?_, ?_⟩
        · rw [List.length_tail, e, List.length_drop] at hi
          have : (dateL l).2.2.2.2.1.length ≠ 0 := by intro h0; rw [List.eq_nil_of_length_eq_zero h0] at hc; simp at hc
          rw [e, List.length_drop] at this
          omega
        · simp only []
          rw [ei, e, ← List.drop_one, List.drop_drop, List.drop_drop]
          congr 1; omega
      · rw [if_neg hR]; intro h; simp at h
    · rw [if_neg hc]
      by_cases hR : rightR (dateL l).1 (dateL l).2.1 (dateL l).2.2.1 (dateL l).2.2.2.1 7200 = true
      · rw [if_pos hR]
        intro _
        exact ⟨hR, j, hp, hj, e⟩
      · rw [if_neg hR]; intro h; simp at h
  · rw [if_neg hok]; intro h; simp at h
theorem parse_bad (l : List UInt8) (h : (parseL l).2.2.2.2.2.2 = false) : parseL l = (0, 0, 0, 0, 0, l, false) := by
  revert h
  unfold parseL
  split
  · split
    · split
      · intro h; simp at h
      · intro _; rfl
    · split
      · intro h; simp at h
      · intro _; rfl
  · intro _; rfl
/-- A rule's text. -/
def headL (K A B C : Int) : List UInt8 := if K = 0 then 77 :: (itoaK A ++ 46 :: (itoaK B ++ 46 :: itoaK C)) else if K = 1 then 74 :: itoaK A else itoaK A
def tailL (X : Int) : List UInt8 := if X = 7200 then [] else 47 :: (clockL X).1
def textL (K A B C X : Int) : List UInt8 × Bool := if rightR K A B C X = true then (headL K A B C ++ tailL X, true) else ([], false)
end Go.Proofs.YtbnpclndiichcaaGreatDoor.Pl
end
section
set_option linter.unusedVariables false
set_option linter.unusedSimpArgs false
namespace Go.Proofs.YtbnpclndiichcaaGreatDoor.Pl
open Go Go.Proofs.YtbnpclndiichcaaGreatDoor.Eng
set_option linter.unusedVariables false
theorem ifT {c : Prop} [Decidable c] {a b : Prop} (h : c) (ha : a) : if c then a else b := by rw [if_pos h]; exact ha
theorem ifF {c : Prop} [Decidable c] {a b : Prop} (h : ¬ c) (hb : b) : if c then a else b := by rw [if_neg h]; exact hb
theorem ifC {c : Prop} [Decidable c] {a b : Prop} (h1 : c → a) (h2 : ¬ c → b) : if c then a else b := by
  by_cases h : c
  · exact ifT h (h1 h)
  · exact ifF h (h2 h)
theorem w64_in {n : Int} (h0 : -9223372036854775808 ≤ n) (h1 : n ≤ 9223372036854775807) : w64 n = n := by
  simp only [w64, IntKind.wrap, IntKind.bits, IntKind.signed]
  try simp
  try omega
theorem bAt0 (c : UInt8) (l : List UInt8) : Eng.bAt (S (c :: l)) 0 = (c.toNat : Int) := rfl
theorem bAt1 (a c : UInt8) (l : List UInt8) : Eng.bAt (S (a :: c :: l)) 1 = (c.toNat : Int) := rfl
theorem lp_ind {α : Type} {F : (α → Prop) → α → Prop} (μ : α → Nat) (I : α → Prop) (h : ∀ x, I x → ∀ k : α → Prop, (∀ y, I y → μ y < μ x → k y) → F k x) {x : α} (hx : I x) : Eng.lp F x := by
  have key : ∀ n x, I x → μ x < n → itrT F n x := by
    intro n
    induction n with
    | zero => intro x _ hn; omega
    | succ n ih => intro x hx hn; exact h x hx _ fun y hy hlt => ih y hy (by omega)
  exact ⟨μ x + 1, key _ _ hx (Nat.lt_succ_self _)⟩
theorem lp_nat {α : Type} {F : (α → Prop) → α → Prop} (st : Nat → α) (N : Nat) (h : ∀ n, n ≤ N → ∀ k : α → Prop, (n < N → k (st (n + 1))) → F k (st n)) : Eng.lp F (st 0) := by
  have key : ∀ d n, n + d = N → itrT F (d + 1) (st n) := by
    intro d
    induction d with
    | zero => intro n hn; exact h n (by omega) _ fun hlt => by omega
    | succ d ih => intro n hn; exact h n (by omega) _ fun hlt => ih (n + 1) (by omega)
  exact ⟨N + 1, key N 0 (by omega)⟩
theorem lp_at {α : Type} {F : (α → Prop) → α → Prop} {x : α} (st : Nat → α) (N : Nat) (h0 : x = st 0) (h : ∀ n, n ≤ N → ∀ k : α → Prop, (n < N → k (st (n + 1))) → F k (st n)) : Eng.lp F x := by
  rw [h0]; exact lp_nat st N h
/-- How many of a list's first elements are not such. -/
def nl (q : UInt8 → Bool) (l : List UInt8) : Nat := (l.takeWhile fun c => !q c).length
theorem nl_le (q : UInt8 → Bool) (l : List UInt8) : nl q l ≤ l.length := by unfold nl; exact (List.takeWhile_sublist _).length_le
theorem nl_cons (q : UInt8 → Bool) (c : UInt8) (l : List UInt8) : nl q (c :: l) = if q c = true then 0 else nl q l + 1 := by
  unfold nl; rw [List.takeWhile_cons]; cases q c <;> simp
theorem nl_any (q : UInt8 → Bool) (l : List UInt8) : l.any q = decide (nl q l < l.length) := by
  induction l with
  | nil => rfl
  | cons c l ih =>
    rw [List.any_cons, nl_cons, ih]
    cases q c <;> simp
theorem nl_of (q : UInt8 → Bool) : ∀ (l : List UInt8) (k : Nat), k ≤ l.length → (∀ c ∈ l.take k, q c = false) → (∀ h : k < l.length, q l[k] = true) → nl q l = k
  | [], k, hk, _, _ => by simp at hk; subst hk; rfl
  | c :: l, 0, _, _, h => by
    have h0 : q c = true := h (by simp)
    rw [nl_cons, if_pos h0]
  | c :: l, k + 1, hk, h1, h2 => by
    have hc := h1 c (by simp)
    rw [nl_cons, if_neg (by rw [hc]; simp), nl_of q l k (by simpa using hk) (fun d hd => h1 d (by rw [List.take_succ_cons]; exact .tail _ hd)) (fun h => by have := h2 (by simpa using h); simpa using this)]
theorem indexByte_nl (l : List UInt8) (c : UInt8) : Lib.indexByte l c = if nl (· == c) l < l.length then (nl (· == c) l : Int) else -1 := by
  induction l with
  | nil => rfl
  | cons b l ih =>
    rw [Lib.indexByte, nl_cons, ih]
    cases hb : (b == c)
    · simp only [Bool.false_eq_true, if_false, List.length_cons]
      by_cases h : nl (· == c) l < l.length
      · rw [if_pos h, if_neg (by simp), if_pos (by omega)]; omega
      · rw [if_neg h, if_pos (by simp), if_neg (by omega)]
    · simp
theorem decode_lo (l : List UInt8) (pos : Nat) (h : pos < l.length) (ha : l[pos].toNat < 128) : Utf8.decode (S l) pos = (l[pos].toNat, 1) := decode_ascii (S l) pos (by rw [S_size]; exact h) ha
theorem decode_hi (l : List UInt8) (pos : Nat) (h : pos < l.length) (ha : 128 ≤ l[pos].toNat) : 128 ≤ (Utf8.decode (S l) pos).1 ∧ 1 ≤ (Utf8.decode (S l) pos).2 := decode_high (S l) pos (by rw [S_size]; exact h) ha
end Go.Proofs.YtbnpclndiichcaaGreatDoor.Pl
end
section
set_option linter.unusedVariables false
set_option linter.unusedSimpArgs false
namespace Go.Proofs.YtbnpclndiichcaaGreatDoor.Pl
open Go
set_option linter.unusedVariables false
set_option linter.unusedSimpArgs false
/-- A text, cut at a sign. -/
def splitL (c : UInt8) (l : List UInt8) : List UInt8 × List UInt8 × Bool := if nl (· == c) l < l.length then (l.take (nl (· == c) l), l.drop (nl (· == c) l + 1), true) else (l, [], false)
/-- A sign that may not be in a name; one that is a letter; names of local times. -/
def badC (c : UInt8) : Bool := !((97 ≤ c.toNat && c.toNat ≤ 122) || (65 ≤ c.toNat && c.toNat ≤ 90) || (48 ≤ c.toNat && c.toNat ≤ 57) || c.toNat == 43 || c.toNat == 45)
def letC (c : UInt8) : Bool := (97 ≤ c.toNat && c.toNat ≤ 122) || (65 ≤ c.toNat && c.toNat ≤ 90)
def abbrL (l : List UInt8) : Bool := decide (3 ≤ l.length ∧ l.length ≤ 16) && !l.any badC
structure Ru where
  k : Int
  a : Int
  b : Int
  c : Int
  x : Int
def Ru.z : Ru := ⟨0, 0, 0, 0, 0⟩
def Ru.ok (r : Ru) : Bool := rightR r.k r.a r.b r.c r.x
def Ru.txt (r : Ru) : List UInt8 := (textL r.k r.a r.b r.c r.x).1
def Ru.at (r : Ru) (y : Int) : Int := ruleDay r.k r.a r.b r.c y * 86400 + r.x
structure Ft where
  so : Int
  sd : Bool
  sa : List UInt8
  wo : Int
  wd : Bool
  wa : List UInt8
  has : Bool
  fr : Ru
  to : Ru
def Ft.z : Ft := ⟨0, false, [], 0, false, [], false, .z, .z⟩
def kindR (o : Int) (d : Bool) (l : List UInt8) (w : Bool) : Bool := abbrL l && (d == w) && decide (-89999 ≤ o ∧ o ≤ 89999)
def Ft.bare (f : Ft) : Prop := f.wo = 0 ∧ f.wd = false ∧ f.wa = [] ∧ (f.fr.k = 0 ∧ f.fr.a = 0 ∧ f.fr.b = 0 ∧ f.fr.c = 0 ∧ f.fr.x = 0) ∧ (f.to.k = 0 ∧ f.to.a = 0 ∧ f.to.b = 0 ∧ f.to.c = 0 ∧ f.to.x = 0)
instance (f : Ft) : Decidable f.bare := inferInstanceAs (Decidable (_ ∧ _))
def Ft.ok (f : Ft) : Bool := kindR f.so f.sd f.sa false && (if f.has = true then kindR f.wo f.wd f.wa true && f.fr.ok && f.to.ok else decide f.bare)
def nameT (l : List UInt8) : List UInt8 := if l.any (fun c => !letC c) = true then 60 :: (l ++ [62]) else l
def Ft.txt (f : Ft) : List UInt8 := nameT f.sa ++ ((clockL (-f.so)).1 ++ (if f.has = true then nameT f.wa ++ ((if f.wo - f.so ≠ 3600 then (clockL (-f.wo)).1 else []) ++ 44 :: (f.fr.txt ++ 44 :: f.to.txt)) else []))
def Ft.text (f : Ft) : List UInt8 × Bool := if f.ok = true then (f.txt, true) else ([], false)
/-- A name that is read: it, whether it may be, what is behind it. -/
def nameP (l : List UInt8) : List UInt8 × Bool × List UInt8 :=
  if l.head? = some 60 then ((splitL 62 l.tail).1, (splitL 62 l.tail).2.2 && abbrL (splitL 62 l.tail).1, (splitL 62 l.tail).2.1)
  else (l.take (nl (fun c => !letC c) l), abbrL (l.take (nl (fun c => !letC c) l)), l.drop (nl (fun c => !letC c) l))
structure Us where
  ok : Bool
  rest : List UInt8
  o : Int
  a : List UInt8
def usualP (l : List UInt8) : Us := ⟨(nameP l).2.1 && (timeL (nameP l).2.2).2.2, (timeL (nameP l).2.2).2.1, -(timeL (nameP l).2.2).1, (nameP l).1⟩
def summerP (so : Int) (l : List UInt8) : Us :=
  if (timeL (nameP l).2.2).2.2 = true then ⟨(nameP l).2.1, (timeL (nameP l).2.2).2.1, -(timeL (nameP l).2.2).1, (nameP l).1⟩ else ⟨(nameP l).2.1, (nameP l).2.2, so + 3600, (nameP l).1⟩
structure Rp where
  ok : Bool
  rest : List UInt8
  r : Ru
def ruleP (l : List UInt8) : Rp := ⟨(parseL (cutP 44 l).1).2.2.2.2.2.2 && (cutP 44 l).2, (parseL (cutP 44 l).1).2.2.2.2.2.1, ⟨(parseL (cutP 44 l).1).1, (parseL (cutP 44 l).1).2.1, (parseL (cutP 44 l).1).2.2.1, (parseL (cutP 44 l).1).2.2.2.1, (parseL (cutP 44 l).1).2.2.2.2.1⟩⟩
def Ft.chk (f : Ft) : Ft × Bool := if f.ok = true then (f, true) else (.z, false)
def Ft.parse (l : List UInt8) : Ft × Bool :=
  if (usualP l).ok = true then
    (if (usualP l).rest = [] then Ft.chk ⟨(usualP l).o, false, (usualP l).a, 0, false, [], false, .z, .z⟩
    else if (summerP (usualP l).o (usualP l).rest).ok = true then
      (if (ruleP (summerP (usualP l).o (usualP l).rest).rest).ok = true then
        (if (ruleP (ruleP (summerP (usualP l).o (usualP l).rest).rest).rest).ok = true then
          (if (ruleP (ruleP (summerP (usualP l).o (usualP l).rest).rest).rest).rest = [] then
            Ft.chk ⟨(usualP l).o, false, (usualP l).a, (summerP (usualP l).o (usualP l).rest).o, true, (summerP (usualP l).o (usualP l).rest).a, true, (ruleP (summerP (usualP l).o (usualP l).rest).rest).r, (ruleP (ruleP (summerP (usualP l).o (usualP l).rest).rest).rest).r⟩
          else (.z, false)) else (.z, false)) else (.z, false)) else (.z, false))
  else (.z, false)
/-- When the summer's time holds in a year. -/
def Ft.spans (f : Ft) (y : Int) : Prop := f.has = true ∧ f.ok = true ∧ 1 ≤ y ∧ y ≤ 9999
instance (f : Ft) (y : Int) : Decidable (f.spans y) := inferInstanceAs (Decidable (_ ∧ _))
def Ft.from' (f : Ft) (y : Int) : Int := f.fr.at y - f.so
def Ft.to' (f : Ft) (y : Int) : Int := f.to.at y - f.wo
/-- Whether a second's year is known; whether the summer's time holds. -/
def inDays (n : Int) : Prop := -719162 ≤ n / 86400 ∧ n / 86400 ≤ 2932896
instance (n : Int) : Decidable (inDays n) := inferInstanceAs (Decidable (_ ∧ _))
def Ft.sum (f : Ft) (p : Int) : Prop := inDays (p + f.so) ∧ f.spans (yearP ((p + f.so) / 86400)) ∧
  ((f.from' (yearP ((p + f.so) / 86400)) ≤ p ∧ p < f.to' (yearP ((p + f.so) / 86400))) ∨ (f.to' (yearP ((p + f.so) / 86400)) ≤ f.from' (yearP ((p + f.so) / 86400)) ∧ (f.from' (yearP ((p + f.so) / 86400)) ≤ p ∨ p < f.to' (yearP ((p + f.so) / 86400)))))
instance (f : Ft) (p : Int) : Decidable (f.sum p) := inferInstanceAs (Decidable (_ ∧ _))
end Go.Proofs.YtbnpclndiichcaaGreatDoor.Pl
end
section
set_option linter.unusedVariables false
set_option linter.unusedSimpArgs false
namespace Go.Proofs.YtbnpclndiichcaaGreatDoor.Pl
open Go
set_option linter.unusedVariables false
set_option linter.unusedSimpArgs false
theorem kind_all {o : Int} {d : Bool} {l : List UInt8} {w : Bool} : kindR o d l w = true ↔ abbrL l = true ∧ d = w ∧ -89999 ≤ o ∧ o ≤ 89999 := by
  unfold kindR; simp [and_assoc]
theorem parse_ok (l : List UInt8) : (Ft.parse l).2 = true → (Ft.parse l).1.ok = true := by
  have hc : ∀ f : Ft, f.chk.2 = true → f.chk.1.ok = true := fun f h => by
    unfold Ft.chk at *
    split at h
    · rename_i e; rw [if_pos e]; exact e
    · cases h
  unfold Ft.parse
  repeat' split
  all_goals first | exact hc _ | (intro h; cases h)
end Go.Proofs.YtbnpclndiichcaaGreatDoor.Pl
end
section
set_option linter.unusedVariables false
set_option linter.unusedSimpArgs false
namespace Go.Proofs.YtbnpclndiichcaaGreatDoor.Pl
open Go Go.Proofs.YtbnpclndiichcaaGreatDoor.Eng
set_option linter.unusedVariables false
set_option linter.unusedSimpArgs false
/-- The first place at which it holds, or the end. -/
def fl {α : Type} (q : α → Bool) : List α → Nat
  | [] => 0
  | x :: l => if q x = true then 0 else fl q l + 1
theorem fl_le {α : Type} (q : α → Bool) : ∀ l : List α, fl q l ≤ l.length
  | [] => Nat.le_refl _
  | x :: l => by
    rw [fl]
    split
    · omega
    · have := fl_le q l; simp; omega
theorem fl_spec {α : Type} (q : α → Bool) : ∀ (l : List α) (j : Nat) (h : j < l.length), (j < fl q l → q l[j] = false) ∧ (j = fl q l → q l[j] = true)
  | [], j, h => by simp at h
  | x :: l, 0, _ => by
    rw [fl]
    cases hq : q x
    · exact ⟨fun _ => hq, fun h => by simp at h⟩
    · exact ⟨fun h => by simp at h, fun _ => hq⟩
  | x :: l, j + 1, h => by
    have ih := fl_spec q l j (by simpa using h)
    rw [fl]
    cases hq : q x
    · simp only [Bool.false_eq_true, if_false, List.getElem_cons_succ]
      exact ⟨fun h => ih.1 (by omega), fun h => ih.2 (by omega)⟩
    · exact ⟨fun h => by simp at h, fun h => by simp at h⟩
theorem fl_of {α : Type} (q : α → Bool) (l : List α) (k : Nat) (hk : k ≤ l.length) (h1 : ∀ i (h : i < l.length), i < k → q l[i] = false) (h2 : ∀ h : k < l.length, q l[k] = true) : fl q l = k := by
  have hle := fl_le q l
  rcases Nat.lt_trichotomy (fl q l) k with h | h | h
  · have h3 : fl q l < l.length := by omega
    have := h1 _ h3 h
    rw [(fl_spec q l _ h3).2 rfl] at this
    cases this
  · exact h
  · have h3 : k < l.length := by omega
    have := (fl_spec q l k h3).1 h
    rw [h2 h3] at this
    cases this
abbrev Rec := Int × Int
/-- Records but the expiry. -/
def lastExp (l : List Rec) : Bool := (decide (l.length = 1) && (l.getD 0 (0, 0)).2 == 0) || (decide (1 < l.length) && (l.getD (l.length - 1) (0, 0)).2 == (l.getD (l.length - 2) (0, 0)).2)
def leapsR (l : List Rec) : List Rec := if lastExp l = true then l.take (l.length - 1) else l
def sumR (l : List Rec) (at' : Int) : Int := match ((leapsR l).take (fl (fun c : Rec => decide (c.1 > at')) (leapsR l))).getLast? with
  | none => 0
  | some c => c.2
/-- Whether records are right; how many are ahead, and the one ahead. -/
def recOk : Nat → Rec → List Rec → Bool
  | _, _, [] => true
  | k, b, c :: r =>
    let e := decide (c.2 - b.2 = 0) && r.isEmpty
    decide (k ≤ 200) && decide (0 ≤ c.1) && (e || decide (c.2 - b.2 = 1) || decide (c.2 - b.2 = -1)) && (decide (k = 0) || decide (c.1 - b.1 ≥ if e = true then 0 else 2419199)) && recOk (k + 1) c r
def recRight (l : List Rec) : Bool := recOk 0 (-2419199, 0) l
abbrev Ty := Int × Bool × List UInt8
structure Zn where
  ty : List Ty
  tr : List Rec
  lp : List Rec
  ft : List UInt8
  v : Int
def eTy (t : Ty) : V := .agg [.c (.int .i64 t.1), .c (.bool t.2.1), .c (.string (S t.2.2))]
def eRec (c : Rec) : V := .agg [.c (.int .i64 c.1), .c (.int .i64 c.2)]
def tupZ (z : Zn) : List V × List V × List V × ByteArray × Int × Unit := (z.ty.map eTy, z.tr.map eRec, z.lp.map eRec, S z.ft, z.v, ())
/-- Names, each once, with an end behind each. -/
def poolN : List (List UInt8) → List (List UInt8) → Nat
  | _, [] => 0
  | had, s :: r => if had.contains s = true then poolN had r else s.length + 1 + poolN (s :: had) r
def nin (n a b : Int) : Bool := decide (a ≤ n ∧ n ≤ b)
def countOk (z : Zn) : Bool := (z.ty.map (·.2.2)).all abbrL && decide (poolN [] (z.ty.map (·.2.2)) ≤ 256) && nin z.lp.length 0 201 && nin z.tr.length 0 2000 && nin z.ty.length 1 64 && nin (poolN [] (z.ty.map (·.2.2))) 1 256 && nin z.v 1 4
def oddR (x : Int) : Bool := decide (x < 0) || decide (x > 86400)
def endsOk (z : Zn) : Bool := z.ft.isEmpty || ((Ft.parse z.ft).2 && decide (z.v ≥ if (oddR (Ft.parse z.ft).1.fr.x || oddR (Ft.parse z.ft).1.to.x) = true then 3 else 2))
def trOk (n : Nat) : Option Int → List Rec → Bool
  | _, [] => true
  | b, c :: r => decide (0 ≤ c.2 ∧ c.2 < n) && (match b with | none => true | some a => decide (c.1 > a)) && trOk n (some c.1) r
def zoneRight (z : Zn) : Bool := countOk z && recRight z.lp && (!lastExp z.lp || decide (z.v ≥ 4)) && z.ty.all (fun t => decide (-89999 ≤ t.1 ∧ t.1 ≤ 93599)) && trOk z.ty.length none z.tr && endsOk z
def indexN (z : Zn) (at' : Int) : Nat := fl (fun c : Rec => decide (c.1 > at')) z.tr
def posixR (z : Zn) (at' : Int) : Int := w64 (at' - sumR z.lp at')
def Ft.look (f : Ft) (p : Int) : Ty := if f.sum p then (f.wo, f.wd, f.wa) else (f.so, f.sd, f.sa)
def lookZ (z : Zn) (at' : Int) : Ty :=
  if z.ft ≠ [] ∧ indexN z at' = z.tr.length then (Ft.parse z.ft).1.look (posixR z at')
  else match (z.tr.take (indexN z at')).getLast? with
    | none => z.ty.headD (0, false, [])
    | some c => z.ty.getD c.2.toNat (0, false, [])
end Go.Proofs.YtbnpclndiichcaaGreatDoor.Pl
end
section
set_option linter.unusedVariables false
set_option linter.unusedSimpArgs false
namespace Go.Proofs.YtbnpclndiichcaaGreatDoor.Pl
open Go Go.Proofs.YtbnpclndiichcaaGreatDoor.Eng
set_option linter.unusedVariables false
set_option linter.unusedSimpArgs false
def be : Nat → Int → List UInt8
  | 0, _ => []
  | k + 1, n => UInt8.ofNat ((n / (256 : Int) ^ k) % 256).toNat :: be k n
def ub : List UInt8 → Int
  | [] => 0
  | c :: r => (c.toNat : Int) * (256 : Int) ^ r.length + ub r
theorem be_len : ∀ (k : Nat) (n : Int), (be k n).length = k
  | 0, _ => rfl
  | k + 1, n => by rw [be, List.length_cons, be_len k n]
theorem pow_pos (k : Nat) : 0 < (256 : Int) ^ k := Int.pow_pos (by decide)
theorem ub_rng : ∀ l : List UInt8, 0 ≤ ub l ∧ ub l < (256 : Int) ^ l.length
  | [] => by simp [ub]
  | c :: r => by
    have ih := ub_rng r
    have hc : c.toNat < 256 := c.toNat_lt
    have hm := pow_pos r.length
    rw [ub, List.length_cons, Int.pow_succ]
    generalize (256 : Int) ^ r.length = m at *
    have h1 : 0 ≤ (c.toNat : Int) * m := Int.mul_nonneg (by omega) (by omega)
    have h2 : (c.toNat : Int) * m ≤ 255 * m := Int.mul_le_mul_of_nonneg_right (by omega) (by omega)
    refine ⟨by omega, ?_⟩
    have : m * 256 = 255 * m + m := by omega
    omega
theorem split_mod (x m : Int) (hm : 0 < m) : x % (m * 256) = (x / m % 256) * m + x % m := by
  have h1 := Int.emod_add_mul_ediv x m
  have h2 := Int.emod_add_mul_ediv (x / m) 256
  have h3 := Int.emod_nonneg x (show m ≠ 0 by omega)
  have h4 := Int.emod_lt_of_pos x hm
  have h5 := Int.emod_nonneg (x / m) (show (256 : Int) ≠ 0 by decide)
  have h6 := Int.emod_lt_of_pos (x / m) (show (0 : Int) < 256 by decide)
  generalize hq : x / m / 256 = q at *
  generalize hc : x / m % 256 = c at *
  generalize hu : x % m = u at *
  have e : x = (c * m + u) + (m * 256) * q := by
    rw [← h1, ← h2]
    rw [Int.mul_add, Int.mul_comm m c, ← Int.mul_assoc]
    omega
  have h7 : 0 ≤ c * m := Int.mul_nonneg h5 (by omega)
  have h8 : c * m ≤ 255 * m := Int.mul_le_mul_of_nonneg_right (by omega) (by omega)
  rw [e, Int.add_mul_emod_self_left]
  exact Int.emod_eq_of_lt (by omega) (by omega)
theorem ub_be : ∀ (k : Nat) (n : Int), ub (be k n) = n % (256 : Int) ^ k
  | 0, n => by simp [be, ub]
  | k + 1, n => by
    rw [be, ub, be_len, ub_be k n, Int.pow_succ, split_mod n _ (pow_pos k)]
    have h5 := Int.emod_nonneg (n / (256 : Int) ^ k) (show (256 : Int) ≠ 0 by decide)
    have h6 := Int.emod_lt_of_pos (n / (256 : Int) ^ k) (show (0 : Int) < 256 by decide)
    generalize n / (256 : Int) ^ k % 256 = c at *
    have : (UInt8.ofNat c.toNat).toNat = c.toNat := by
      rw [UInt8.toNat_ofNat']; exact Nat.mod_eq_of_lt (by omega)
    rw [this, Int.toNat_of_nonneg h5]
/-- Sizes 1, 4, 8: the first without a sign. -/
def fits (k : Nat) (n : Int) : Bool := if k = 1 then decide (0 ≤ n ∧ n < 256) else decide (-((256 : Int) ^ k / 2) ≤ n ∧ n < (256 : Int) ^ k / 2)
def numB (l : List UInt8) : Int := if l.length = 1 then ub l else if (256 : Int) ^ l.length ≤ 2 * ub l then ub l - (256 : Int) ^ l.length else ub l
theorem num_be {k : Nat} (hk : k = 1 ∨ k = 4 ∨ k = 8) {n : Int} (h : fits k n = true) : numB (be k n) = n := by
  unfold numB
  rw [be_len, ub_be]
  unfold fits at h
  rcases hk with rfl | rfl | rfl
  · rw [if_pos rfl] at h ⊢
    simp only [decide_eq_true_eq] at h
    rw [Int.emod_eq_of_lt (by omega) (by simp; omega)]
  · rw [if_neg (by decide)] at h ⊢
    simp only [decide_eq_true_eq, show ((256 : Int) ^ 4) = 4294967296 by decide] at h ⊢
    split <;> omega
  · rw [if_neg (by decide)] at h ⊢
    simp only [decide_eq_true_eq, show ((256 : Int) ^ 8) = 18446744073709551616 by decide] at h ⊢
    split <;> omega
end Go.Proofs.YtbnpclndiichcaaGreatDoor.Pl
end
section
set_option linter.unusedVariables false
set_option linter.unusedSimpArgs false
namespace Go.Proofs.YtbnpclndiichcaaGreatDoor.Pl
open Go Go.Proofs.YtbnpclndiichcaaGreatDoor.Eng
set_option linter.unusedVariables false
set_option linter.unusedSimpArgs false
abbrev W32 := BitVec 32
def rotl (x : W32) (k : Nat) : W32 := x <<< k ||| x >>> (32 - k)
/-- The words of a block: sixteen, then those that are mixed. -/
def sched : Nat → List W32 → List W32
  | 0, l => l
  | n + 1, l => sched n (l ++ [rotl (l.getD (l.length - 3) 0 ^^^ l.getD (l.length - 8) 0 ^^^ l.getD (l.length - 14) 0 ^^^ l.getD (l.length - 16) 0) 1])
def next (l : List W32) : List W32 := l ++ [rotl (l.getD (l.length - 3) 0 ^^^ l.getD (l.length - 8) 0 ^^^ l.getD (l.length - 14) 0 ^^^ l.getD (l.length - 16) 0) 1]
def word (b : List UInt8) (i : Nat) : W32 := b.foldl (fun w c => w <<< 8 ||| BitVec.ofNat 32 c.toNat) 0
def wordAt (b : List UInt8) (i : Nat) : W32 := word ((b.drop (4 * i)).take 4) 0
def first (b : List UInt8) (n : Nat) : List W32 := (List.range n).map (wordAt b)
structure St5 where
  a : W32
  b : W32
  c : W32
  d : W32
  e : W32
def s0 : St5 := ⟨1732584193#32, 4023233417#32, 2562383102#32, 271733878#32, 3285377520#32⟩
def St5.at (s : St5) (i : Nat) : W32 := match i with | 0 => s.a | 1 => s.b | 2 => s.c | 3 => s.d | _ => s.e
end Go.Proofs.YtbnpclndiichcaaGreatDoor.Pl
end
section
set_option linter.unusedVariables false
set_option linter.unusedSimpArgs false
namespace Go.Proofs.YtbnpclndiichcaaGreatDoor.Pl
open Go Go.Proofs.YtbnpclndiichcaaGreatDoor.Eng
set_option linter.unusedVariables false
set_option linter.unusedSimpArgs false
def blankB (c : UInt8) : Bool := c == 32 || c == 9
/-- Words. -/
def wd : List UInt8 → List UInt8 → List (List UInt8)
  | cur, [] => if cur = [] then [] else [cur]
  | cur, c :: r => if blankB c = true then (if cur = [] then wd [] r else cur :: wd [] r) else wd (cur ++ [c]) r
/-- A number of a text. -/
def numL (l : List UInt8) : Int × Bool := if l ≠ [] ∧ l.all isDig = true ∧ valL l ≤ 9223372036854775807 then ((valL l : Int), true) else (0, false)
def two (l : List UInt8) : Bool := (numL l).2 && decide (l.length ≤ 2)
/-- Leaps: the day, the step, whether of local time; and tables. -/
abbrev LR := Int × Int × Bool
structure Tb where
  ls : List LR
  has : Bool
  ex : Int
deriving DecidableEq
def endD (n : Int) : Bool := decide (-719162 ≤ n ∧ n ≤ 2932896) && (dayP n == dim (yearP n) (monP n))
def wrongL (k : Nat) (l : LR) (ahead : Int) : Int :=
  if 200 ≤ k then 8 else if l.1 < 730 ∨ 2932896 ≤ l.1 then 9 else if endD l.1 = false then 5 else if l.2.1 ≠ 1 ∧ l.2.1 ≠ -1 then 6 else if l.1 ≤ ahead then 4 else 0
/-- The first wrong leap, what is wrong of it, the last day ahead. -/
def checkG : Nat → Int → List LR → Nat × Int × Int
  | k, ahead, [] => (k, 0, ahead)
  | k, ahead, l :: r => if wrongL k l ahead ≠ 0 then (k, wrongL k l ahead, ahead) else checkG (k + 1) l.1 r
def expB (has : Bool) (ex ahead : Int) : Int :=
  if has = true then (if ex < (if 63072000 > (ahead + 1) * 86400 then 63072000 else (ahead + 1) * 86400) ∨ 253402300799 < ex then 9 else 0) else if ex ≠ 0 then 9 else 0
def checkT (t : Tb) : Nat × Int := if (checkG 0 729 t.ls).2.1 ≠ 0 then ((checkG 0 729 t.ls).1, (checkG 0 729 t.ls).2.1) else (t.ls.length, expB t.has t.ex (checkG 0 729 t.ls).2.2)
def rightT (t : Tb) : Bool := (checkT t).2 == 0
/-- A line: its kind, its date, its second, and what a leap has beside. -/
structure Row where
  kind : Int
  y : Int
  m : Int
  d : Int
  sec : Int
  sign : List UInt8
  roll : Bool
/-- What is read so far: the table (without an expiry), the line of the expiry, and what it says. -/
structure Src where
  ls : List LR
  at' : Int
  til : Int
/-- Bytes, one by one. -/
def B8 (l : List UInt8) : List V := l.map fun b => .c (.int .u8 b.toNat)
theorem B8_len (l : List UInt8) : (B8 l).length = l.length := by simp [B8]
theorem bytesV_S (l : List UInt8) : Eng.bytesV (S l) = B8 l := by simp [Eng.bytesV, B8]
theorem asB8 {l : List UInt8} {i : Nat} (h : i < l.length) {F : Prop} {K : Int → Prop} (hk : K (l[i].toNat : Int)) : Eng.asInt .u8 (getC (B8 l) i 0) F K := by
  have : getC (B8 l) i 0 = some (.c (.int .u8 (l[i].toNat : Int))) := by simp [getC, B8, V.cells, h]
  rw [this]; simpa [Eng.asInt] using hk
theorem B8_all (l : List UInt8) : Eng.allU8 (B8 l) = true := by
  simp [Eng.allU8, B8, Eng.isU8]
theorem B8_pack (l : List UInt8) : Eng.packB (B8 l) = S l := by
  have : (l.map fun b => V.c (.int .u8 (b.toNat : Int))).map Eng.byteOf = l := by
    rw [List.map_map]
    conv => rhs; rw [← List.map_id l]
    refine List.map_congr_left fun b _ => ?_
    simp [Eng.byteOf]
  unfold Eng.packB B8
  rw [this]
theorem dneg {p : Prop} [Decidable p] (h : ¬ p) : ¬ (decide p = true) := by simpa using h
end Go.Proofs.YtbnpclndiichcaaGreatDoor.Pl
end
section
set_option linter.unusedVariables false
set_option linter.unusedSimpArgs false
namespace Go.Proofs.YtbnpclndiichcaaGreatDoor.Pl
open Go Go.Proofs.YtbnpclndiichcaaGreatDoor.Eng
set_option linter.unusedVariables false
set_option linter.unusedSimpArgs false
theorem wu8_mod (n : Int) : wu8 n = n % 256 := by
  simp only [wu8, IntKind.wrap, IntKind.bits, IntKind.signed]
  simp
theorem wi32_in (n : Int) : (wi32 n = n) ↔ (-2147483648 ≤ n ∧ n ≤ 2147483647) := by
  simp only [wi32, IntKind.wrap, IntKind.bits, IntKind.signed]
  simp
  split <;> omega
theorem put_byte (n : Int) (k : Nat) (hk : k ≤ 7) : wu8 (Int.fdiv n ((2 : Int) ^ Min.min (Int.toNat (8 * (k : Int))) 64)) = ((UInt8.ofNat ((n / (256 : Int) ^ k) % 256).toNat).toNat : Int) := by
  have e1 : Min.min (Int.toNat (8 * (k : Int))) 64 = 8 * k := by omega
  have e2 : (2 : Int) ^ (8 * k) = (256 : Int) ^ k := by
    rw [Int.pow_mul]; rfl
  rw [e1, e2, wu8_mod, Int.fdiv_eq_ediv_of_nonneg _ (Int.le_of_lt (pow_pos k))]
  have h5 := Int.emod_nonneg (n / (256 : Int) ^ k) (show (256 : Int) ≠ 0 by decide)
  have h6 := Int.emod_lt_of_pos (n / (256 : Int) ^ k) (show (0 : Int) < 256 by decide)
  generalize n / (256 : Int) ^ k % 256 = c at *
  rw [UInt8.toNat_ofNat', Nat.mod_eq_of_lt (by omega), Int.toNat_of_nonneg h5]
end Go.Proofs.YtbnpclndiichcaaGreatDoor.Pl
end
section
set_option linter.unusedVariables false
set_option linter.unusedSimpArgs false
namespace Go.Proofs.YtbnpclndiichcaaGreatDoor.Pl
open Go Go.Proofs.YtbnpclndiichcaaGreatDoor.Eng
set_option linter.unusedVariables false
set_option linter.unusedSimpArgs false
/-- Names, each once, with an end behind each; where each name stands. -/
def poolG : List UInt8 → List (List UInt8 × Nat) → List (List UInt8) → List UInt8 × List Nat
  | p, _, [] => (p, [])
  | p, had, s :: r => match had.find? (fun x => x.1 == s) with
    | some x => ((poolG p had r).1, x.2 :: (poolG p had r).2)
    | none => ((poolG (p ++ (s ++ [0])) (had ++ [(s, p.length)]) r).1, p.length :: (poolG (p ++ (s ++ [0])) (had ++ [(s, p.length)]) r).2)
def poolL (l : List (List UInt8)) : List UInt8 × List Nat := poolG [] [] l
/-- The name that stands at a place. -/
def nameAt (p : List UInt8) (n : Nat) : List UInt8 := (p.drop n).takeWhile (· != 0)
theorem poolG_pre : ∀ (l : List (List UInt8)) (p : List UInt8) (had : List (List UInt8 × Nat)), ∃ t, (poolG p had l).1 = p ++ t
  | [], p, had => ⟨[], by simp [poolG]⟩
  | s :: r, p, had => by
    rw [poolG]
    split
    · exact poolG_pre r p had
    · obtain ⟨t, ht⟩ := poolG_pre r (p ++ (s ++ [0])) (had ++ [(s, p.length)])
      exact ⟨(s ++ [0]) ++ t, by rw [ht]; simp⟩
theorem poolG_len : ∀ (l : List (List UInt8)) (p : List UInt8) (had : List (List UInt8 × Nat)), (poolG p had l).2.length = l.length
  | [], p, had => rfl
  | s :: r, p, had => by
    rw [poolG]
    split
    · simp [poolG_len r]
    · simp [poolG_len r]
theorem poolG_bd : ∀ (l : List (List UInt8)) (p : List UInt8) (had : List (List UInt8 × Nat)) (m : Nat), (∀ s ∈ l, s.length ≤ m) → (∀ x ∈ had, x.2 ≤ p.length) →
    (poolG p had l).1.length ≤ p.length + (m + 1) * l.length ∧ ∀ x ∈ (poolG p had l).2, x ≤ (poolG p had l).1.length
  | [], p, had, m, hs, hh => ⟨by simp [poolG], by simp [poolG]⟩
  | s :: r, p, had, m, hs, hh => by
    have hs' : ∀ t ∈ r, t.length ≤ m := fun t ht => hs t (.tail _ ht)
    have h1 := hs s (.head _)
    have hm : (m + 1) * (r.length + 1) = (m + 1) * r.length + (m + 1) := Nat.mul_succ _ _
    rw [List.length_cons, hm]
    cases hf : had.find? (fun x => x.1 == s) with
    | some x =>
      have e : poolG p had (s :: r) = ((poolG p had r).1, x.2 :: (poolG p had r).2) := by rw [poolG, hf]
      obtain ⟨a, b⟩ := poolG_bd r p had m hs' hh
      obtain ⟨t, ht⟩ := poolG_pre r p had
      rw [e]
      refine ⟨by show (poolG p had r).1.length ≤ _; omega, fun y hy => ?_⟩
      rcases List.mem_cons.1 hy with rfl | hy
      · have := hh x (List.mem_of_find?_eq_some hf)
        show x.2 ≤ (poolG p had r).1.length
        rw [ht, List.length_append]; omega
      · exact b y hy
    | none =>
      have e : poolG p had (s :: r) = ((poolG (p ++ (s ++ [0])) (had ++ [(s, p.length)]) r).1, p.length :: (poolG (p ++ (s ++ [0])) (had ++ [(s, p.length)]) r).2) := by rw [poolG, hf]
      obtain ⟨a, b⟩ := poolG_bd r (p ++ (s ++ [0])) (had ++ [(s, p.length)]) m hs' (fun x hx => by
        rcases List.mem_append.1 hx with hx | hx
        · have := hh x hx; rw [List.length_append]; omega
        · obtain rfl : x = (s, p.length) := by simpa using hx
          simp)
      obtain ⟨t, ht⟩ := poolG_pre r (p ++ (s ++ [0])) (had ++ [(s, p.length)])
      rw [e]
      simp only [List.length_append, List.length_singleton] at a
      refine ⟨by show (poolG (p ++ (s ++ [0])) (had ++ [(s, p.length)]) r).1.length ≤ _; omega, fun y hy => ?_⟩
      rcases List.mem_cons.1 hy with rfl | hy
      · show p.length ≤ (poolG (p ++ (s ++ [0])) (had ++ [(s, p.length)]) r).1.length
        rw [ht]; simp
      · exact b y hy
theorem takeWhile_zero (s t : List UInt8) (h : (0 : UInt8) ∉ s) : ((s ++ [0]) ++ t).takeWhile (· != 0) = s := by
  induction s with
  | nil => rfl
  | cons c r ih =>
    have hc : c ≠ 0 := fun e => h (by rw [e]; simp)
    rw [List.cons_append, List.cons_append, List.takeWhile_cons, if_pos (by simpa using hc), ih fun hm => h (.tail _ hm)]
theorem poolG_at : ∀ (l : List (List UInt8)) (p : List UInt8) (had : List (List UInt8 × Nat)), (∀ s ∈ l, (0 : UInt8) ∉ s) →
    (∀ x ∈ had, x.2 < p.length ∧ ∀ t, nameAt (p ++ t) x.2 = x.1) → ∀ i (h : i < l.length) (h' : i < (poolG p had l).2.length), nameAt (poolG p had l).1 ((poolG p had l).2[i]) = l[i] ∧ (poolG p had l).2[i] < (poolG p had l).1.length
  | [], p, had, hz, hh, i, h, h' => by simp at h
  | s :: r, p, had, hz, hh, i, h, h' => by
    have hz' : ∀ s ∈ r, (0 : UInt8) ∉ s := fun t ht => hz t (.tail _ ht)
    cases hf : had.find? (fun x => x.1 == s) with
    | some x =>
      have e : poolG p had (s :: r) = ((poolG p had r).1, x.2 :: (poolG p had r).2) := by rw [poolG, hf]
      simp only [e] at h' ⊢
      cases i with
      | zero =>
        obtain ⟨t, ht⟩ := poolG_pre r p had
        have hx := hh x (List.mem_of_find?_eq_some hf)
        have hs : x.1 = s := by simpa using List.find?_some hf
        rw [List.getElem_cons_zero, List.getElem_cons_zero, ht, hx.2, hs]
        exact ⟨rfl, by rw [List.length_append]; omega⟩
      | succ i =>
        simp only [List.getElem_cons_succ]
        exact poolG_at r p had hz' hh i (by simpa using h) (by simpa using h')
    | none =>
      have e : poolG p had (s :: r) = ((poolG (p ++ (s ++ [0])) (had ++ [(s, p.length)]) r).1, p.length :: (poolG (p ++ (s ++ [0])) (had ++ [(s, p.length)]) r).2) := by rw [poolG, hf]
      have hn : ∀ t, nameAt (p ++ (s ++ [0]) ++ t) p.length = s := fun t => by
        unfold nameAt
        rw [List.append_assoc, List.drop_left]
        exact takeWhile_zero s t (hz s (.head _))
      simp only [e] at h' ⊢
      cases i with
      | zero =>
        obtain ⟨t, ht⟩ := poolG_pre r (p ++ (s ++ [0])) (had ++ [(s, p.length)])
        rw [List.getElem_cons_zero, List.getElem_cons_zero, ht, hn]
        exact ⟨rfl, by simp; omega⟩
      | succ i =>
        simp only [List.getElem_cons_succ]
        refine poolG_at r _ _ hz' (fun x hx => ?_) i (by simpa using h) (by simpa using h')
        rcases List.mem_append.1 hx with hx | hx
        · obtain ⟨q1, q2⟩ := hh x hx
          exact ⟨by rw [List.length_append]; omega, fun t => by rw [List.append_assoc]; exact q2 _⟩
        · obtain rfl : x = (s, p.length) := by simpa using hx
          exact ⟨by simp, hn⟩
end Go.Proofs.YtbnpclndiichcaaGreatDoor.Pl
end
section
set_option linter.unusedVariables false
set_option linter.unusedSimpArgs false
namespace Go.Proofs.YtbnpclndiichcaaGreatDoor.Pl
open Go Go.Proofs.YtbnpclndiichcaaGreatDoor.Eng
set_option linter.unusedVariables false
set_option linter.unusedSimpArgs false
/-- A writer: what it holds, while all fits. -/
structure WI (bad : Bool) (l : List UInt8) (F : Bool) (b : List UInt8) (N : Nat) : Prop where
  bad : bad = !F
  eq : F = true → l = b
  len : l.length ≤ N
theorem WI.step {bad F : Bool} {l b : List UInt8} {N k : Nat} {n : Int} (h : WI bad l F b N) (hk : k = 1 ∨ k = 4 ∨ k = 8) : WI (bad || !fits k n) (l ++ if fits k n = true then be k n else []) (F && fits k n) (b ++ be k n) (N + 8) := by
  obtain ⟨h1, h2, h3⟩ := h
  refine ⟨by rw [h1]; cases F <;> cases fits k n <;> rfl, fun hF => ?_, ?_⟩
  · rw [Bool.and_eq_true] at hF
    rw [h2 hF.1, if_pos hF.2]
  · rw [List.length_append]
    split
    · rw [be_len]; omega
    · simp; omega
def tyW (l : List (Ty × Nat)) : List UInt8 := (l.map fun x => be 4 x.1.1 ++ be 1 (if x.1.2.1 = true then 1 else 0) ++ be 1 (x.2 : Int)).flatten
def tyF (l : List (Ty × Nat)) : Bool := l.all fun x => fits 4 x.1.1 && fits 1 (if x.1.2.1 = true then 1 else 0) && fits 1 (x.2 : Int)
def lpW (k : Nat) (l : List Rec) : List UInt8 := (l.map fun c => be k c.1 ++ be 4 c.2).flatten
def lpF (k : Nat) (l : List Rec) : Bool := l.all fun c => fits k c.1 && fits 4 c.2
def secW (k : Nat) (l : List Rec) : List UInt8 := (l.map fun c => be k c.1).flatten
def secF (k : Nat) (l : List Rec) : Bool := l.all fun c => fits k c.1
def kdW (l : List Rec) : List UInt8 := (l.map fun c => be 1 c.2).flatten
def kdF (l : List Rec) : Bool := l.all fun c => fits 1 c.2
def namesZ (z : Zn) : List (List UInt8) := z.ty.map (·.2.2)
/-- A zone's data; whether all fits. -/
def blockB (z : Zn) (k : Nat) : List UInt8 := secW k z.tr ++ kdW z.tr ++ tyW (z.ty.zip (poolL (namesZ z)).2) ++ (poolL (namesZ z)).1 ++ lpW k z.lp
def blockF (z : Zn) (k : Nat) : Bool := secF k z.tr && kdF z.tr && tyF (z.ty.zip (poolL (namesZ z)).2) && lpF k z.lp
def blockR (z : Zn) (k : Nat) : List UInt8 × Bool := if countOk z = true ∧ blockF z k = true then (blockB z k, true) else ([], false)
theorem take_map_flat {α : Type} (l : List α) (g : α → List UInt8) (j : Nat) (h : j < l.length) : ((l.take (j + 1)).map g).flatten = ((l.take j).map g).flatten ++ g l[j] := by
  rw [List.take_succ_eq_append_getElem h, List.map_append, List.flatten_append]; simp
theorem take_allS {α : Type} (l : List α) (g : α → Bool) (j : Nat) (h : j < l.length) : (l.take (j + 1)).all g = ((l.take j).all g && g l[j]) := by
  rw [List.take_succ_eq_append_getElem h, List.all_append]; simp
end Go.Proofs.YtbnpclndiichcaaGreatDoor.Pl
end
section
set_option linter.unusedVariables false
set_option linter.unusedSimpArgs false
namespace Go.Proofs.YtbnpclndiichcaaGreatDoor.Pl
open Go Go.Proofs.YtbnpclndiichcaaGreatDoor.Eng
set_option linter.unusedVariables false
set_option linter.unusedSimpArgs false
theorem abbr_zero {l : List UInt8} (h : abbrL l = true) : (0 : UInt8) ∉ l := fun hm => by
  unfold abbrL at h
  simp only [Bool.and_eq_true, Bool.not_eq_true'] at h
  have := List.any_eq_false.1 h.2 0 hm
  revert this; decide
end Go.Proofs.YtbnpclndiichcaaGreatDoor.Pl
end
section
set_option linter.unusedVariables false
set_option linter.unusedSimpArgs false
namespace Go.Proofs.YtbnpclndiichcaaGreatDoor.Pl
open Go Go.Proofs.YtbnpclndiichcaaGreatDoor.Eng
set_option linter.unusedVariables false
set_option linter.unusedSimpArgs false
def dd (n : Int) : List UInt8 := [UInt8.ofNat (48 + (n / 10 % 10).toNat), UInt8.ofNat (48 + (n % 10).toNat)]
def hms (x : Int) : List UInt8 := dd (x / 3600) ++ 58 :: (dd (x / 60 % 60) ++ 58 :: dd (x % 60))
end Go.Proofs.YtbnpclndiichcaaGreatDoor.Pl
end
section
set_option linter.unusedVariables false
set_option linter.unusedSimpArgs false
namespace Go.Proofs.YtbnpclndiichcaaGreatDoor.Pl
open Go Go.Proofs.YtbnpclndiichcaaGreatDoor.Eng
set_option linter.unusedVariables false
set_option linter.unusedSimpArgs false
def midL (l : LR) : Int := (l.1 + 1) * 86400
/-- When a leap is, without those ahead of it. -/
def instR (z : Zn) (l : LR) : Int := if l.2.2 = true then midL l - (lookZ z (midL l - 1)).1 else midL l
def recG (z : Zn) : Int → List LR → List Rec
  | _, [] => []
  | s, l :: r => (instR z l + s + min l.2.1 0, s + l.2.1) :: recG z (s + l.2.1) r
def stepsL (ls : List LR) : Int := (ls.map (·.2.1)).sum
def recAll (z : Zn) (t : Tb) : List Rec := recG z 0 t.ls ++ (if t.has = true then [(t.ex + stepsL t.ls, stepsL t.ls)] else [])
/-- What is wrong of records. -/
def recErr : Nat → Rec → List Rec → Int
  | _, _, [] => 0
  | k, b, c :: r =>
    if 200 < k then 8 else if c.1 < 0 then 9 else if (decide (c.2 - b.2 = 0) && r.isEmpty) = false ∧ c.2 - b.2 ≠ 1 ∧ c.2 - b.2 ≠ -1 then 6
    else if 0 < k ∧ c.1 - b.1 < (if (decide (c.2 - b.2 = 0) && r.isEmpty) = true then 0 else 2419199) then 7 else recErr (k + 1) c r
def recE (l : List Rec) : Int := recErr 0 (-2419199, 0) l
def inI (n : Int) : Prop := -9223372036854775808 ≤ n ∧ n ≤ 9223372036854775807
instance (n : Int) : Decidable (inI n) := by unfold inI; infer_instance
def shiftS (z : Zn) (ls : List LR) (p : Int) : Int := ((ls.filter fun l => decide (instR z l ≤ p)).map (·.2.1)).sum
def shiftR (z : Zn) (ls : List LR) (p : Int) : Int × Bool := if inI (p + shiftS z ls p) then (p + shiftS z ls p, true) else (0, false)
def zn0 : Zn := ⟨[], [], [], [], 0⟩
def rising : List Rec → Bool
  | [] => true
  | [_] => true
  | a :: b :: r => decide (a.1 < b.1) && rising (b :: r)
end Go.Proofs.YtbnpclndiichcaaGreatDoor.Pl
end
section
set_option linter.unusedVariables false
set_option linter.unusedSimpArgs false
namespace Go.Proofs.YtbnpclndiichcaaGreatDoor.Pl
open Go Go.Proofs.YtbnpclndiichcaaGreatDoor.Eng
set_option linter.unusedVariables false
set_option linter.unusedSimpArgs false
structure CompOk (z : Zn) (t : Tb) (y : Zn) : Prop where
  lp : z.lp = []
  zr : zoneRight z = true
  tr : rightT t = true
  ro : recE (recAll z t) = 0
  al : z.tr.all (fun c => (shiftR z t.ls c.1).2) = true
  ri : rising (z.tr.map fun c => ((shiftR z t.ls c.1).1, c.2)) = true
  eq : y = ⟨z.ty, z.tr.map fun c => ((shiftR z t.ls c.1).1, c.2), recAll z t, z.ft, if t.has = true then 4 else z.v⟩
end Go.Proofs.YtbnpclndiichcaaGreatDoor.Pl
end
section
set_option linter.unusedVariables false
set_option linter.unusedSimpArgs false
namespace Go.Proofs.YtbnpclndiichcaaGreatDoor.Pl
open Go Go.Proofs.YtbnpclndiichcaaGreatDoor.Eng
set_option linter.unusedVariables false
set_option linter.unusedSimpArgs false
def secD (k : Nat) : Nat → List UInt8 → List Int
  | 0, _ => []
  | n + 1, b => numB (b.take k) :: secD k n (b.drop k)
def tyD : Nat → List UInt8 → List (Int × Int × Int)
  | 0, _ => []
  | n + 1, b => (numB (b.take 4), numB ((b.drop 4).take 1), numB ((b.drop 5).take 1)) :: tyD n (b.drop 6)
def lpD (k : Nat) : Nat → List UInt8 → List Rec
  | 0, _ => []
  | n + 1, b => (numB (b.take k), numB ((b.drop k).take 4)) :: lpD k n (b.drop (k + 4))
/-- The name at a place, and whether there is one. -/
def abbrAt (p : List UInt8) (a : Int) : List UInt8 × Bool :=
  if 0 ≤ a ∧ a < p.length ∧ (0 : UInt8) ∈ p.drop a.toNat ∧ abbrL (nameAt p a.toNat) = true then (nameAt p a.toNat, true) else ([], false)
structure Hd where
  v : Int
  ut : Int
  sd : Int
  lp : Int
  tr : Int
  ty : Int
  ch : Int
def hd0 : Hd := ⟨0, 0, 0, 0, 0, 0, 0⟩
def tupHd (h : Hd) : Int × Int × Int × Int × Int × Int × Int × Unit := (h.v, h.ut, h.sd, h.lp, h.tr, h.ty, h.ch, ())
def headOk (h : Hd) : Bool := nin h.lp 0 201 && nin h.tr 0 2000 && nin h.ty 1 64 && nin h.ch 1 256 && nin h.v 1 4 && (h.ut == 0 || h.ut == h.ty) && (h.sd == 0 || h.sd == h.ty)
def sizeR (h : Hd) (k : Nat) : Int := if headOk h = true ∧ (k = 4 ∨ k = 8) then h.tr * (k + 1) + h.ty * 6 + h.ch + h.lp * (k + 4) + h.sd + h.ut else 0
def markOk (sd ut : List UInt8) : Bool := sd.all (fun c => decide (c.toNat ≤ 1)) && ut.all (fun c => decide (c.toNat ≤ 1)) && (List.range ut.length).all fun i => !(ut.getD i 0 == 1) || sd.getD i 0 == 1
/-- Where the parts of a zone's data begin. -/
def oTy (h : Hd) (k : Nat) : Nat := (k + 1) * h.tr.toNat
def oCh (h : Hd) (k : Nat) : Nat := oTy h k + 6 * h.ty.toNat
def oLp (h : Hd) (k : Nat) : Nat := oCh h k + h.ch.toNat
def oSd (h : Hd) (k : Nat) : Nat := oLp h k + (k + 4) * h.lp.toNat
def oUt (h : Hd) (k : Nat) : Nat := oSd h k + h.sd.toNat
def tysD (h : Hd) (b : List UInt8) (k : Nat) : List (Int × Int × Int) := tyD h.ty.toNat (b.drop (oTy h k))
def chD (h : Hd) (b : List UInt8) (k : Nat) : List UInt8 := (b.drop (oCh h k)).take h.ch.toNat
def blockZ (h : Hd) (b : List UInt8) (k : Nat) : Zn :=
  ⟨(tysD h b k).map fun x => (x.1, x.2.1 == 1, (abbrAt (chD h b k) x.2.2).1), (secD k h.tr.toNat b).zip (secD 1 h.tr.toNat (b.drop (k * h.tr.toNat))), lpD k h.lp.toNat (b.drop (oLp h k)), [], h.v⟩
def blockK (h : Hd) (b : List UInt8) (k : Nat) : Bool :=
  (tysD h b k).all (fun x => decide (x.2.1 < 2)) && (tysD h b k).all (fun x => (abbrAt (chD h b k) x.2.2).2) && markOk ((b.drop (oSd h k)).take h.sd.toNat) ((b.drop (oUt h k)).take h.ut.toNat)
def blockD (h : Hd) (b : List UInt8) (k : Nat) : Zn × Bool :=
  if sizeR h k ≠ 0 ∧ (b.length : Int) = sizeR h k ∧ blockK h b k = true then (blockZ h b k, true) else (zn0, false)
def versR (c : Int) : Int := if c = 0 then 1 else if 50 ≤ c ∧ c ≤ 52 then c - 48 else 0
def headG (b : List UInt8) : Hd :=
  ⟨versR (numB ((b.drop 4).take 1)), numB ((b.drop 20).take 4), numB ((b.drop 24).take 4), numB ((b.drop 28).take 4), numB ((b.drop 32).take 4), numB ((b.drop 36).take 4), numB ((b.drop 40).take 4)⟩
def magicL : List UInt8 := [84, 90, 105, 102]
def headD (b : List UInt8) : Hd × Bool :=
  if 44 ≤ b.length ∧ b.take 4 = magicL ∧ ((b.drop 5).take 15).all (· == 0) = true ∧ headOk (headG b) = true then (headG b, true) else (hd0, false)
def hdZ (z : Zn) : Hd := ⟨z.v, 0, 0, z.lp.length, z.tr.length, z.ty.length, (poolL (namesZ z)).1.length⟩
end Go.Proofs.YtbnpclndiichcaaGreatDoor.Pl
end
section
set_option linter.unusedVariables false
set_option linter.unusedSimpArgs false
namespace Go.Proofs.YtbnpclndiichcaaGreatDoor.Pl
open Go Go.Proofs.YtbnpclndiichcaaGreatDoor.Eng
set_option linter.unusedVariables false
set_option linter.unusedSimpArgs false
theorem be_take (k : Nat) (n : Int) (t : List UInt8) : (be k n ++ t).take k = be k n := by
  rw [List.take_append_of_le_length (by rw [be_len]; omega), List.take_of_length_le (by rw [be_len]; omega)]
theorem be_drop (k : Nat) (n : Int) (t : List UInt8) : (be k n ++ t).drop k = t := by
  rw [List.drop_append_of_le_length (by rw [be_len]; omega), List.drop_of_length_le (by rw [be_len]; omega), List.nil_append]
theorem sec_len (k : Nat) (l : List Rec) : (secW k l).length = k * l.length := by
  induction l with
  | nil => simp [secW]
  | cons c r ih =>
    unfold secW at ih ⊢
    rw [List.map_cons, List.flatten_cons, List.length_append, be_len, ih, List.length_cons, Nat.mul_succ]; omega
theorem kd_len (l : List Rec) : (kdW l).length = l.length := by
  induction l with
  | nil => simp [kdW]
  | cons c r ih =>
    unfold kdW at ih ⊢
    rw [List.map_cons, List.flatten_cons, List.length_append, be_len, ih, List.length_cons]; omega
theorem ty_len (l : List (Ty × Nat)) : (tyW l).length = 6 * l.length := by
  induction l with
  | nil => simp [tyW]
  | cons c r ih =>
    unfold tyW at ih ⊢
    rw [List.map_cons, List.flatten_cons, List.length_append, List.length_append, List.length_append, be_len, be_len, be_len, ih, List.length_cons, Nat.mul_succ]; omega
theorem lp_len (k : Nat) (l : List Rec) : (lpW k l).length = (k + 4) * l.length := by
  induction l with
  | nil => simp [lpW]
  | cons c r ih =>
    unfold lpW at ih ⊢
    rw [List.map_cons, List.flatten_cons, List.length_append, List.length_append, be_len, be_len, ih, List.length_cons, Nat.mul_succ]; omega
theorem sec_back {k : Nat} (hk : k = 1 ∨ k = 4 ∨ k = 8) : ∀ (l : List Rec) (t : List UInt8), secF k l = true → secD k l.length (secW k l ++ t) = l.map (·.1)
  | [], t, h => rfl
  | c :: r, t, h => by
    simp only [secF, List.all_cons, Bool.and_eq_true] at h
    have e : secW k (c :: r) ++ t = be k c.1 ++ (secW k r ++ t) := by simp [secW]
    rw [e, List.length_cons, secD, be_take, be_drop, num_be hk h.1, sec_back hk r t h.2, List.map_cons]
theorem kd_back : ∀ (l : List Rec) (t : List UInt8), kdF l = true → secD 1 l.length (kdW l ++ t) = l.map (·.2)
  | [], t, h => rfl
  | c :: r, t, h => by
    simp only [kdF, List.all_cons, Bool.and_eq_true] at h
    have e : kdW (c :: r) ++ t = be 1 c.2 ++ (kdW r ++ t) := by simp [kdW]
    rw [e, List.length_cons, secD, be_take, be_drop, num_be (.inl rfl) h.1, kd_back r t h.2, List.map_cons]
theorem ty_back : ∀ (l : List (Ty × Nat)) (t : List UInt8), tyF l = true → tyD l.length (tyW l ++ t) = l.map fun x => (x.1.1, (if x.1.2.1 = true then 1 else 0), (x.2 : Int))
  | [], t, h => rfl
  | c :: r, t, h => by
    simp only [tyF, List.all_cons, Bool.and_eq_true] at h
    have e : tyW (c :: r) ++ t = be 4 c.1.1 ++ (be 1 (if c.1.2.1 = true then 1 else 0) ++ (be 1 (c.2 : Int) ++ (tyW r ++ t))) := by simp [tyW]
    have e5 : (be 4 c.1.1 ++ (be 1 (if c.1.2.1 = true then 1 else 0) ++ (be 1 (c.2 : Int) ++ (tyW r ++ t)))).drop 5 = be 1 (c.2 : Int) ++ (tyW r ++ t) := by
      rw [show (5 : Nat) = 4 + 1 from rfl, ← List.drop_drop, be_drop, be_drop]
    have e6 : (be 4 c.1.1 ++ (be 1 (if c.1.2.1 = true then 1 else 0) ++ (be 1 (c.2 : Int) ++ (tyW r ++ t)))).drop 6 = tyW r ++ t := by
      rw [show (6 : Nat) = 5 + 1 from rfl, ← List.drop_drop, e5, be_drop]
    rw [e, List.length_cons, tyD, e5, e6, be_take, be_drop, be_take, be_take, num_be (.inr (.inl rfl)) h.1.1.1, num_be (.inl rfl) h.1.1.2, num_be (.inl rfl) h.1.2, ty_back r t h.2, List.map_cons]
theorem lp_back {k : Nat} (hk : k = 1 ∨ k = 4 ∨ k = 8) : ∀ (l : List Rec) (t : List UInt8), lpF k l = true → lpD k l.length (lpW k l ++ t) = l
  | [], t, h => rfl
  | c :: r, t, h => by
    simp only [lpF, List.all_cons, Bool.and_eq_true] at h
    have e : lpW k (c :: r) ++ t = be k c.1 ++ (be 4 c.2 ++ (lpW k r ++ t)) := by simp [lpW]
    rw [e, List.length_cons, lpD, ← List.drop_drop, be_take, be_drop, be_take, be_drop, num_be hk h.1.1, num_be (.inr (.inl rfl)) h.1.2, lp_back hk r t h.2]
theorem poolN_cong' : ∀ (l a b : List (List UInt8)), (∀ s, a.contains s = b.contains s) → poolN a l = poolN b l
  | [], a, b, h => rfl
  | s :: r, a, b, h => by
    rw [poolN, poolN, h s]
    split
    · exact poolN_cong' r a b h
    · rw [poolN_cong' r (s :: a) (s :: b) fun t => by simp only [List.contains_cons, h t]]
theorem poolG_size : ∀ (l : List (List UInt8)) (p : List UInt8) (had : List (List UInt8 × Nat)), (poolG p had l).1.length = p.length + poolN (had.map (·.1)) l
  | [], p, had => by simp [poolG, poolN]
  | s :: r, p, had => by
    have hc : (had.map (·.1)).contains s = (had.find? (fun x => x.1 == s)).isSome := by
      induction had with
      | nil => rfl
      | cons x t ih =>
        rw [List.map_cons, List.contains_cons, ih, List.find?_cons]
        cases hx : x.1 == s
        · have : (s == x.1) = false := by rw [Bool.eq_false_iff] at hx ⊢; exact fun q => hx (by simpa using (eq_of_beq q).symm)
          rw [this]; rfl
        · have : (s == x.1) = true := by simpa using (eq_of_beq hx).symm
          rw [this]; rfl
    rw [poolG, poolN, hc]
    cases hf : had.find? (fun x => x.1 == s) with
    | some x => simp only [Option.isSome_some, if_true]; exact poolG_size r p had
    | none =>
      simp only [Option.isSome_none, Bool.false_eq_true, if_false]
      rw [poolG_size r, List.length_append, List.length_append, List.length_singleton, poolN_cong' r _ (s :: had.map (·.1)) fun t => by
          rw [Bool.eq_iff_iff, List.contains_iff_mem, List.contains_iff_mem, List.map_append, List.mem_append, List.mem_cons]
          simp only [List.map_cons, List.map_nil, List.mem_singleton]
          exact ⟨fun h => h.symm, fun h => h.symm⟩]
      omega
theorem poolL_size (l : List (List UInt8)) : (poolL l).1.length = poolN [] l := by
  unfold poolL; rw [poolG_size]; simp
theorem poolG_last : ∀ (l : List (List UInt8)) (p : List UInt8) (had : List (List UInt8 × Nat)), (p = [] ∨ p.getLast? = some 0) → ((poolG p had l).1 = [] ∨ (poolG p had l).1.getLast? = some 0)
  | [], p, had, h => h
  | s :: r, p, had, h => by
    rw [poolG]
    split
    · exact poolG_last r p had h
    · refine poolG_last r _ _ (.inr ?_)
      rw [← List.append_assoc, List.getLast?_concat]
theorem zero_in {p : List UInt8} (h : p = [] ∨ p.getLast? = some 0) {a : Nat} (ha : a < p.length) : (0 : UInt8) ∈ p.drop a := by
  rcases h with h | h
  · rw [h] at ha; simp at ha
  · have : (p.drop a).getLast? = some 0 := by rw [List.getLast?_drop, if_neg (by omega), h]
    exact List.mem_of_getLast? this
theorem abbr_at {l : List (List UInt8)} (hl : l.all abbrL = true) {i : Nat} (h : i < l.length) (h' : i < (poolL l).2.length) : abbrAt (poolL l).1 (((poolL l).2[i] : Nat) : Int) = (l[i], true) := by
  have hz : ∀ s ∈ l, (0 : UInt8) ∉ s := fun s hs => abbr_zero (List.all_eq_true.1 hl s hs)
  obtain ⟨a, b⟩ := poolG_at l [] [] hz (by simp) i h h'
  have e0 := zero_in (poolG_last l [] [] (.inl rfl)) b
  unfold poolL at h' ⊢
  unfold abbrAt
  rw [Int.toNat_natCast, a]
  rw [if_pos ⟨by omega, by omega, e0, List.all_eq_true.1 hl _ (List.getElem_mem h)⟩]
structure CountOk (z : Zn) : Prop where
  ab : (namesZ z).all abbrL = true
  ch : 1 ≤ (poolL (namesZ z)).1.length ∧ (poolL (namesZ z)).1.length ≤ 256
  lp : z.lp.length ≤ 201
  tr : z.tr.length ≤ 2000
  ty : 1 ≤ z.ty.length ∧ z.ty.length ≤ 64
  v : 1 ≤ z.v ∧ z.v ≤ 4
theorem count_ok {z : Zn} (h : countOk z = true) : CountOk z := by
  unfold countOk nin at h
  simp only [Bool.and_eq_true, decide_eq_true_eq] at h
  have e := poolL_size (namesZ z)
  unfold namesZ at e
  exact ⟨h.1.1.1.1.1.1, by unfold namesZ; omega, by omega, by omega, by omega, h.2⟩
theorem head_hdZ {z : Zn} (h : countOk z = true) : headOk (hdZ z) = true := by
  have := count_ok h
  obtain ⟨h1, h2, h3, h4, h5, h6⟩ := this
  unfold headOk hdZ nin
  simp only [Bool.and_eq_true, decide_eq_true_eq]
  exact ⟨⟨⟨⟨⟨⟨by omega, by omega⟩, by omega⟩, by omega⟩, h6⟩, rfl⟩, rfl⟩
theorem block_len {z : Zn} {k : Nat} : (blockB z k).length = (k + 1) * z.tr.length + 6 * z.ty.length + (poolL (namesZ z)).1.length + (k + 4) * z.lp.length := by
  have hz1 : (z.ty.zip (poolL (namesZ z)).2).length = z.ty.length := by
    rw [List.length_zip]; unfold poolL; rw [poolG_len]; simp [namesZ]
  unfold blockB
  simp only [List.length_append]
  rw [sec_len, kd_len, ty_len, lp_len, hz1, Nat.add_mul k 1]; omega
theorem size_hdZ {z : Zn} (h : countOk z = true) {k : Nat} (hk : k = 4 ∨ k = 8) : sizeR (hdZ z) k = ((blockB z k).length : Int) := by
  unfold sizeR
  rw [if_pos ⟨head_hdZ h, hk⟩, block_len]
  unfold hdZ
  simp only [Int.natCast_add, Int.natCast_mul]
  rw [Int.mul_comm (z.tr.length : Int), Int.mul_comm (z.ty.length : Int), Int.mul_comm (z.lp.length : Int)]
  simp
theorem drop_pre {α : Type} (a b : List α) (n : Nat) (h : a.length = n) : (a ++ b).drop n = b := List.drop_left' h
theorem take_pre {α : Type} (a b : List α) (n : Nat) (h : a.length = n) : (a ++ b).take n = a := List.take_left' h
theorem zip_map_pair (l : List Rec) : (l.map (·.1)).zip (l.map (·.2)) = l := by
  induction l with
  | nil => rfl
  | cons c r ih => simp [ih]
theorem block_back {z : Zn} {k : Nat} (hk : k = 4 ∨ k = 8) (hc : countOk z = true) (hf : blockF z k = true) : blockD (hdZ z) (blockB z k) k = ({ z with ft := [] }, true) := by
  have co := count_ok hc
  have hk3 : k = 1 ∨ k = 4 ∨ k = 8 := .inr hk
  have plen : (poolL (namesZ z)).2.length = z.ty.length := by unfold poolL; rw [poolG_len]; simp [namesZ]
  have nlen : (namesZ z).length = z.ty.length := by simp [namesZ]
  have hz1 : (z.ty.zip (poolL (namesZ z)).2).length = z.ty.length := by rw [List.length_zip, plen]; omega
  unfold blockF at hf
  simp only [Bool.and_eq_true] at hf
  obtain ⟨⟨⟨f1, f2⟩, f3⟩, f4⟩ := hf
  have eT : (hdZ z).tr.toNat = z.tr.length := by simp [hdZ]
  have eY : (hdZ z).ty.toNat = z.ty.length := by simp [hdZ]
  have eC : (hdZ z).ch.toNat = (poolL (namesZ z)).1.length := by simp [hdZ]
  have eL : (hdZ z).lp.toNat = z.lp.length := by simp [hdZ]
  have b0 : blockB z k = secW k z.tr ++ (kdW z.tr ++ (tyW (z.ty.zip (poolL (namesZ z)).2) ++ ((poolL (namesZ z)).1 ++ lpW k z.lp))) := by simp [blockB]
  have b1 : (blockB z k).drop (k * z.tr.length) = kdW z.tr ++ (tyW (z.ty.zip (poolL (namesZ z)).2) ++ ((poolL (namesZ z)).1 ++ lpW k z.lp)) := by
    rw [b0]; exact drop_pre _ _ _ (sec_len k _)
  have b2 : (blockB z k).drop (oTy (hdZ z) k) = tyW (z.ty.zip (poolL (namesZ z)).2) ++ ((poolL (namesZ z)).1 ++ lpW k z.lp) := by
    unfold oTy
    rw [eT, Nat.add_mul, Nat.one_mul, ← List.drop_drop, b1]; exact drop_pre _ _ _ (kd_len _)
  have b3 : (blockB z k).drop (oCh (hdZ z) k) = (poolL (namesZ z)).1 ++ lpW k z.lp := by
    unfold oCh
    rw [eY, ← List.drop_drop, b2]; exact drop_pre _ _ _ (by rw [ty_len, hz1])
  have b4 : (blockB z k).drop (oLp (hdZ z) k) = lpW k z.lp := by
    unfold oLp
    rw [eC, ← List.drop_drop, b3]; exact drop_pre _ _ _ rfl
  have ty : tysD (hdZ z) (blockB z k) k = (z.ty.zip (poolL (namesZ z)).2).map fun x => (x.1.1, (if x.1.2.1 = true then 1 else 0), (x.2 : Int)) := by
    unfold tysD
    rw [b2, eY]
    have := ty_back _ ((poolL (namesZ z)).1 ++ lpW k z.lp) f3
    rwa [hz1] at this
  have ch : chD (hdZ z) (blockB z k) k = (poolL (namesZ z)).1 := by
    unfold chD; rw [b3, eC]; exact take_pre _ _ _ rfl
  have at' : ∀ x ∈ z.ty.zip (poolL (namesZ z)).2, abbrAt (poolL (namesZ z)).1 (x.2 : Int) = (x.1.2.2, true) := fun x hx => by
    obtain ⟨i, hi, rfl⟩ := List.getElem_of_mem hx
    rw [hz1] at hi
    have e : (z.ty.zip (poolL (namesZ z)).2)[i]'(by rw [hz1]; exact hi) = (z.ty[i], (poolL (namesZ z)).2[i]'(by rw [plen]; exact hi)) := List.getElem_zip
    rw [e]
    have := abbr_at co.ab (i := i) (by rw [nlen]; exact hi) (by rw [plen]; exact hi)
    rw [this]
    simp [namesZ]
  have eZ : blockZ (hdZ z) (blockB z k) k = { z with ft := [] } := by
    have e9 := lp_back hk3 z.lp [] f4
    rw [List.append_nil] at e9
    unfold blockZ
    rw [ty, ch, eT, eL, b4, b1, b0, sec_back hk3 _ _ f1, kd_back _ _ f2, e9, zip_map_pair, List.map_map]
    have : List.map ((fun x : Int × Int × Int => ((x.1, x.2.1 == 1, (abbrAt (poolL (namesZ z)).1 x.2.2).1) : Ty)) ∘ fun x : Ty × Nat => (x.1.1, (if x.1.2.1 = true then 1 else 0), (x.2 : Int))) (z.ty.zip (poolL (namesZ z)).2) = z.ty := by
      have e2 : z.ty = (z.ty.zip (poolL (namesZ z)).2).map (·.1) := by rw [List.map_fst_zip (by omega)]
      conv => rhs; rw [e2]
      refine List.map_congr_left fun x hx => ?_
      simp only [Function.comp_apply]
      rw [at' x hx]
      obtain ⟨⟨o, d, a⟩, n⟩ := x
      cases d <;> rfl
    rw [this]
    rfl
  have eK : blockK (hdZ z) (blockB z k) k = true := by
    unfold blockK
    have em : markOk (((blockB z k).drop (oSd (hdZ z) k)).take (hdZ z).sd.toNat) (((blockB z k).drop (oUt (hdZ z) k)).take (hdZ z).ut.toNat) = true := by
      have e1 : (hdZ z).sd.toNat = 0 := rfl
      have e2 : (hdZ z).ut.toNat = 0 := rfl
      rw [e1, e2, List.take_zero, List.take_zero]; rfl
    rw [em, ty, ch, Bool.and_true, Bool.and_eq_true, List.all_map, List.all_map]
    refine ⟨List.all_eq_true.2 fun x hx => ?_, List.all_eq_true.2 fun x hx => ?_⟩
    · simp only [Function.comp_apply]
      split <;> rfl
    · simp only [Function.comp_apply]
      rw [at' x hx]
  have sz := size_hdZ hc hk
  have lb := block_len (z := z) (k := k)
  unfold blockD
  rw [if_pos ⟨by rw [sz]; have := co.ty; omega, sz.symm, eK⟩, eZ]
end Go.Proofs.YtbnpclndiichcaaGreatDoor.Pl
end
section
set_option linter.unusedVariables false
set_option linter.unusedSimpArgs false
namespace Go.Proofs.YtbnpclndiichcaaGreatDoor.Pl
open Go Go.Proofs.YtbnpclndiichcaaGreatDoor.Eng
set_option linter.unusedVariables false
set_option linter.unusedSimpArgs false
structure HeadOk (h : Hd) : Prop where
  lp : 0 ≤ h.lp ∧ h.lp ≤ 201
  tr : 0 ≤ h.tr ∧ h.tr ≤ 2000
  ty : 1 ≤ h.ty ∧ h.ty ≤ 64
  ch : 1 ≤ h.ch ∧ h.ch ≤ 256
  v : 1 ≤ h.v ∧ h.v ≤ 4
  ut : h.ut = 0 ∨ h.ut = h.ty
  sd : h.sd = 0 ∨ h.sd = h.ty
theorem head_ok {h : Hd} (q : headOk h = true) : HeadOk h := by
  unfold headOk nin at q
  simp only [Bool.and_eq_true, decide_eq_true_eq, Bool.or_eq_true, beq_iff_eq] at q
  exact ⟨q.1.1.1.1.1.1, q.1.1.1.1.1.2, q.1.1.1.1.2, q.1.1.1.2, q.1.1.2, q.1.2, q.2⟩
theorem right_count {z : Zn} (h : zoneRight z = true) : countOk z = true := by
  unfold zoneRight at h
  simp only [Bool.and_eq_true] at h
  exact h.1.1.1.1.1
theorem blockR_ok {z : Zn} {k : Nat} (h : (blockR z k).2 = true) : blockF z k = true ∧ blockR z k = (blockB z k, true) := by
  unfold blockR at h ⊢
  split at h
  · rename_i q; rw [if_pos q]; exact ⟨q.2, rfl⟩
  · cases h
end Go.Proofs.YtbnpclndiichcaaGreatDoor.Pl
end
section
set_option linter.unusedVariables false
set_option linter.unusedSimpArgs false
namespace Go.Proofs.YtbnpclndiichcaaGreatDoor.Pl
open Go Go.Proofs.YtbnpclndiichcaaGreatDoor.Eng
set_option linter.unusedVariables false
set_option linter.unusedSimpArgs false
theorem secD_len (k : Nat) : ∀ (n : Nat) (b : List UInt8), (secD k n b).length = n
  | 0, b => rfl
  | n + 1, b => by rw [secD, List.length_cons, secD_len k n]
theorem tyD_len : ∀ (n : Nat) (b : List UInt8), (tyD n b).length = n
  | 0, b => rfl
  | n + 1, b => by rw [tyD, List.length_cons, tyD_len n]
theorem lpD_len (k : Nat) : ∀ (n : Nat) (b : List UInt8), (lpD k n b).length = n
  | 0, b => rfl
  | n + 1, b => by rw [lpD, List.length_cons, lpD_len k n]
theorem size_sum {h : Hd} {k : Nat} (hs : sizeR h k ≠ 0) : headOk h = true ∧ (k = 4 ∨ k = 8) ∧ sizeR h k = ((oUt h k + h.ut.toNat : Nat) : Int) := by
  unfold sizeR at hs ⊢
  split at hs
  · rename_i q
    rw [if_pos q]
    have o := head_ok q.1
    obtain ⟨t, ht⟩ : ∃ t : Nat, h.tr = t := ⟨h.tr.toNat, by have := o.tr; omega⟩
    obtain ⟨y, hy⟩ : ∃ t : Nat, h.ty = t := ⟨h.ty.toNat, by have := o.ty; omega⟩
    obtain ⟨c, hc⟩ : ∃ t : Nat, h.ch = t := ⟨h.ch.toNat, by have := o.ch; omega⟩
    obtain ⟨l, hl⟩ : ∃ t : Nat, h.lp = t := ⟨h.lp.toNat, by have := o.lp; omega⟩
    obtain ⟨s, hsd⟩ : ∃ t : Nat, h.sd = t := ⟨h.sd.toNat, by have := o.sd; have := o.ty; omega⟩
    obtain ⟨u, hu⟩ : ∃ t : Nat, h.ut = t := ⟨h.ut.toNat, by have := o.ut; have := o.ty; omega⟩
    refine ⟨q.1, q.2, ?_⟩
    unfold oUt oSd oLp oCh oTy
    rw [ht, hy, hc, hl, hsd, hu]
    simp only [Int.toNat_natCast, Int.natCast_add, Int.natCast_mul]
    rw [Int.mul_comm (t : Int), Int.mul_comm (y : Int), Int.mul_comm (l : Int)]
    simp
  · exact absurd rfl hs
theorem pool_small {z : Zn} (hc : countOk z = true) : ∀ n ∈ (poolL (namesZ z)).2, fits 1 (n : Int) = true := fun n hn => by
  have co := count_ok hc
  obtain ⟨i, hi, rfl⟩ := List.getElem_of_mem hn
  have hi' : i < (namesZ z).length := by unfold poolL at hi; rwa [poolG_len] at hi
  have hz : ∀ s ∈ namesZ z, (0 : UInt8) ∉ s := fun s hs => abbr_zero (List.all_eq_true.1 co.ab s hs)
  obtain ⟨a, b⟩ := poolG_at (namesZ z) [] [] hz (by simp) i hi' hi
  have := co.ch
  unfold poolL at this ⊢
  unfold fits
  rw [if_pos rfl, decide_eq_true_eq]
  omega
theorem zip_mem {α β : Type} {l : List α} {m : List β} {x : α × β} (h : x ∈ l.zip m) : x.1 ∈ l ∧ x.2 ∈ m := List.of_mem_zip h
end Go.Proofs.YtbnpclndiichcaaGreatDoor.Pl
end
section
set_option linter.unusedVariables false
set_option linter.unusedSimpArgs false
namespace Go.Proofs.YtbnpclndiichcaaGreatDoor.Pl
open Go Go.Proofs.YtbnpclndiichcaaGreatDoor.Eng
set_option linter.unusedVariables false
set_option linter.unusedSimpArgs false
theorem secD_get (k : Nat) : ∀ (n : Nat) (l : List UInt8) (j : Nat) (h : j < (secD k n l).length), (secD k n l)[j] = numB ((l.drop (k * j)).take k)
  | 0, l, j, h => by simp [secD] at h
  | n + 1, l, 0, h => by simp only [secD, List.getElem_cons_zero, Nat.mul_zero, List.drop_zero]
  | n + 1, l, j + 1, h => by
    simp only [secD, List.getElem_cons_succ]
    rw [secD_get k n (l.drop k) j (by simpa [secD] using h), List.drop_drop, Nat.mul_succ, Nat.add_comm k]
theorem tyD_get : ∀ (n : Nat) (l : List UInt8) (j : Nat) (h : j < (tyD n l).length), (tyD n l)[j] = (numB ((l.drop (6 * j)).take 4), numB ((l.drop (6 * j + 4)).take 1), numB ((l.drop (6 * j + 5)).take 1))
  | 0, l, j, h => by simp [tyD] at h
  | n + 1, l, 0, h => by simp only [tyD, List.getElem_cons_zero, Nat.mul_zero, List.drop_zero, Nat.zero_add]
  | n + 1, l, j + 1, h => by
    simp only [tyD, List.getElem_cons_succ]
    rw [tyD_get n (l.drop 6) j (by simpa [tyD] using h), List.drop_drop, List.drop_drop, List.drop_drop]
    rw [show 6 + 6 * j = 6 * (j + 1) by omega, show 6 + (6 * j + 4) = 6 * (j + 1) + 4 by omega, show 6 + (6 * j + 5) = 6 * (j + 1) + 5 by omega]
theorem lpD_get (k : Nat) : ∀ (n : Nat) (l : List UInt8) (j : Nat) (h : j < (lpD k n l).length), (lpD k n l)[j] = (numB ((l.drop ((k + 4) * j)).take k), numB ((l.drop ((k + 4) * j + k)).take 4))
  | 0, l, j, h => by simp [lpD] at h
  | n + 1, l, 0, h => by simp only [lpD, List.getElem_cons_zero, Nat.mul_zero, List.drop_zero, Nat.zero_add]
  | n + 1, l, j + 1, h => by
    simp only [lpD, List.getElem_cons_succ]
    rw [lpD_get k n (l.drop (k + 4)) j (by simpa [lpD] using h), List.drop_drop, List.drop_drop]
    rw [Nat.mul_succ, show k + 4 + (k + 4) * j = (k + 4) * j + (k + 4) by omega, show k + 4 + ((k + 4) * j + k) = (k + 4) * j + (k + 4) + k by omega]
theorem take_nl (l : List UInt8) : l.take (nl (· == 0) l) = l.takeWhile (· != 0) := by
  unfold nl
  have : (fun c : UInt8 => !(c == 0)) = (· != 0) := rfl
  rw [this]
  induction l with
  | nil => rfl
  | cons c r ih =>
    rw [List.takeWhile_cons]
    split
    · rw [List.length_cons, List.take_succ_cons, ih]
    · rfl
theorem zero_nl (l : List UInt8) : (0 : UInt8) ∈ l ↔ nl (· == 0) l < l.length := by
  have := nl_any (· == 0) l
  constructor
  · intro h
    have h2 : l.any (· == 0) = true := List.any_eq_true.2 ⟨0, h, rfl⟩
    rw [h2] at this
    exact of_decide_eq_true this.symm
  · intro h
    rw [decide_eq_true h] at this
    obtain ⟨c, hc, e⟩ := List.any_eq_true.1 this
    exact (eq_of_beq e) ▸ hc
end Go.Proofs.YtbnpclndiichcaaGreatDoor.Pl
end
section
set_option linter.unusedVariables false
set_option linter.unusedSimpArgs false
namespace Go.Proofs.YtbnpclndiichcaaGreatDoor.Pl
open Go Go.Proofs.YtbnpclndiichcaaGreatDoor.Eng
set_option linter.unusedVariables false
set_option linter.unusedSimpArgs false
/-- Small cases. -/
def z20 : Zn := ⟨[(0, false, [85, 84, 67])], [], [], [85, 84, 67, 48], 2⟩
def v20 : Zn := ⟨[(0, false, [85, 84, 67])], [], [], [85, 33, 67, 48], 2⟩
end Go.Proofs.YtbnpclndiichcaaGreatDoor.Pl
end
section
set_option linter.unusedVariables false
set_option linter.unusedSimpArgs false
namespace Go.Proofs.YtbnpclndiichcaaGreatDoor.Pl
open Go Go.Proofs.YtbnpclndiichcaaGreatDoor.Eng
set_option linter.unusedVariables false
set_option linter.unusedSimpArgs false
theorem w64_cong {a b : Int} (h : a % 18446744073709551616 = b % 18446744073709551616) : w64 a = w64 b := by
  simp only [w64, IntKind.wrap, IntKind.bits, IntKind.signed]
  simp
  rw [h]
theorem w64_self (a : Int) : w64 a % 18446744073709551616 = a % 18446744073709551616 := by
  simp only [w64, IntKind.wrap, IntKind.bits, IntKind.signed]
  simp
  split <;> omega
theorem or_byte (n : Int) (c : Nat) (hc : c < 256) : w64 (((BitVec.ofInt 64 (w64 (n * 256)) ||| BitVec.ofInt 64 (w64 (c : Int))).toNat : Nat) : Int) = w64 (n * 256 + c) := by
  refine w64_cong ?_
  have ea : (BitVec.ofInt 64 (w64 (n * 256))).toNat = 256 * ((n % 72057594037927936).toNat) := by
    rw [BitVec.toNat_ofInt]
    have := w64_self (n * 256)
    have e2 : ((2 ^ 64 : Nat) : Int) = 18446744073709551616 := by decide
    rw [e2, this]
    omega
  have eb : (BitVec.ofInt 64 (w64 (c : Int))).toNat = c := by
    rw [BitVec.toNat_ofInt]
    have := w64_self (c : Int)
    have e2 : ((2 ^ 64 : Nat) : Int) = 18446744073709551616 := by decide
    rw [e2, this]
    omega
  rw [BitVec.toNat_or, ea, eb]
  have := Nat.two_pow_add_eq_or_of_lt (i := 8) (b := c) (by omega) ((n % 72057594037927936).toNat)
  rw [show (256 : Nat) = 2 ^ 8 by decide, ← this]
  have e8 : (2 : Nat) ^ 8 = 256 := by decide
  rw [e8]
  omega
theorem ub_snoc : ∀ (d : List UInt8) (c : UInt8), ub (d ++ [c]) = ub d * 256 + c.toNat
  | [], c => by simp [ub]
  | a :: r, c => by
    rw [List.cons_append, ub, ub, ub_snoc r c, List.length_append, List.length_singleton, Int.pow_succ, Int.add_mul, Int.mul_assoc, Int.add_assoc]
/-- What has been read after some bytes. -/
def accN (k : Nat) (d : List UInt8) : Int :=
  if k = 8 then w64 (ub d) else if k = 4 then ub d - (if 128 ≤ (d.headD 0).toNat then (256 : Int) ^ d.length else 0) else ub d
theorem acc1 (d : List UInt8) : accN 1 d = ub d := rfl
theorem acc4 (d : List UInt8) : accN 4 d = ub d - (if 128 ≤ (d.headD 0).toNat then (256 : Int) ^ d.length else 0) := rfl
theorem acc8 (d : List UInt8) : accN 8 d = w64 (ub d) := rfl
theorem acc_nil (k : Nat) : accN k [] = 0 := by
  unfold accN
  split
  · rfl
  · split
    · rfl
    · rfl
theorem acc_first4 (c : UInt8) : w64 (IntKind.wrap IntKind.i8 (c.toNat : Int)) = accN 4 [c] := by
  have := c.toNat_lt
  rw [acc4]
  simp only [w64, IntKind.wrap, IntKind.bits, IntKind.signed, ub]
  simp
  split <;> split <;> omega
theorem acc_step {k : Nat} (hk : k = 1 ∨ k = 4 ∨ k = 8) {d : List UInt8} {c : UInt8} (hl : d.length < k) (h4 : k = 4 → d ≠ []) : w64 (accN k d * 256 + c.toNat) = accN k (d ++ [c]) := by
  have hc := c.toNat_lt
  have hu := ub_rng d
  rcases hk with rfl | rfl | rfl
  · have : d = [] := List.eq_nil_of_length_eq_zero (by omega)
    subst this
    rw [acc1, acc1, ub_snoc]
    simp only [ub]
    rw [w64_in (by omega) (by omega)]
  · rw [acc4, acc4, ub_snoc]
    cases d with
    | nil => exact absurd rfl (h4 rfl)
    | cons a r =>
      have hp : (256 : Int) ^ (a :: r).length ≤ 16777216 := by
        have : (a :: r).length = 1 ∨ (a :: r).length = 2 ∨ (a :: r).length = 3 := by simp only [List.length_cons] at hl ⊢; omega
        rcases this with e | e | e <;> rw [e] <;> decide
      have hp0 := pow_pos (a :: r).length
      rw [List.cons_append, List.headD_cons, List.headD_cons, List.length_cons, List.length_cons, List.length_append, List.length_singleton]
      rw [List.length_cons] at hu hp hp0
      rw [Int.pow_succ (256 : Int) (r.length + 1)]
      by_cases ha : 128 ≤ a.toNat
      · rw [if_pos ha, if_pos ha, w64_in (by omega) (by omega)]; omega
      · rw [if_neg ha, if_neg ha, w64_in (by omega) (by omega)]; omega
  · rw [acc8, acc8, ub_snoc]
    refine w64_cong ?_
    have := w64_self (ub d)
    omega
theorem acc_num {k : Nat} (hk : k = 1 ∨ k = 4 ∨ k = 8) {d : List UInt8} (hl : d.length = k) : accN k d = numB d := by
  have hu := ub_rng d
  rcases hk with rfl | rfl | rfl
  · rw [acc1]
    unfold numB
    rw [if_pos hl]
  · rw [acc4]
    unfold numB
    rw [hl] at hu ⊢
    cases d with
    | nil => simp at hl
    | cons a r =>
      have hr := ub_rng r
      have hrl : r.length = 3 := by simpa using hl
      rw [List.headD_cons]
      rw [hrl] at hr
      rw [ub, hrl] at hu ⊢
      have ha := a.toNat_lt
      simp only [show ((256 : Int) ^ 4) = 4294967296 by decide, show ((256 : Int) ^ 3) = 16777216 by decide] at hr hu ⊢
      by_cases h1 : 128 ≤ a.toNat
      · rw [if_pos h1, if_neg (by decide), if_pos (by omega)]
      · rw [if_neg h1, if_neg (by decide), if_neg (by omega)]; omega
  · rw [acc8]
    unfold numB
    rw [hl] at hu ⊢
    simp only [show ((256 : Int) ^ 8) = 18446744073709551616 by decide] at *
    rw [if_neg (by decide)]
    simp only [w64, IntKind.wrap, IntKind.bits, IntKind.signed]
    simp
    split <;> split <;> omega
end Go.Proofs.YtbnpclndiichcaaGreatDoor.Pl
end
section
set_option linter.unusedVariables false
set_option linter.unusedSimpArgs false
namespace Go.Proofs.YtbnpclndiichcaaGreatDoor
open Go Go.Proofs.YtbnpclndiichcaaGreatDoor.Eng Go.Proofs.YtbnpclndiichcaaGreatDoor.Pl
set_option linter.unusedVariables false
set_option linter.unusedSimpArgs false
set_option maxRecDepth 100000
set_option maxHeartbeats 2000000
def RV (l : List Rec) : List V := l.map eRec
def TV (l : List Ty) : List V := l.map eTy
theorem RV_len (l : List Rec) : (RV l).length = l.length := by simp [RV]
theorem TV_len (l : List Ty) : (TV l).length = l.length := by simp [TV]
theorem asR1 {l : List Rec} {i : Nat} (h : i < l.length) {F : Prop} {K : Int → Prop} (hk : K (l[i]).1) : Eng.asInt .i64 (getC (RV l) i 0) F K := by
  have : getC (RV l) i 0 = some (.c (.int .i64 (l[i]).1)) := by simp [getC, RV, eRec, V.cells, h]
  rw [this]; simpa [Eng.asInt] using hk
theorem asR2 {l : List Rec} {i : Nat} (h : i < l.length) {F : Prop} {K : Int → Prop} (hk : K (l[i]).2) : Eng.asInt .i64 (getC (RV l) i 1) F K := by
  have : getC (RV l) i 1 = some (.c (.int .i64 (l[i]).2)) := by simp [getC, RV, eRec, V.cells, h]
  rw [this]; simpa [Eng.asInt] using hk
theorem asT1 {l : List Ty} {i : Nat} (h : i < l.length) {F : Prop} {K : Int → Prop} (hk : K (l[i]).1) : Eng.asInt .i64 (getC (TV l) i 0) F K := by
  have : getC (TV l) i 0 = some (.c (.int .i64 (l[i]).1)) := by simp [getC, TV, eTy, V.cells, h]
  rw [this]; simpa [Eng.asInt] using hk
theorem asT2 {l : List Ty} {i : Nat} (h : i < l.length) {F : Prop} {K : Bool → Prop} (hk : K (l[i]).2.1) : Eng.asBool (getC (TV l) i 1) F K := by
  have : getC (TV l) i 1 = some (.c (.bool (l[i]).2.1)) := by simp [getC, TV, eTy, V.cells, h]
  rw [this]; simpa [Eng.asBool] using hk
theorem asT3 {l : List Ty} {i : Nat} (h : i < l.length) {F : Prop} {K : ByteArray → Prop} (hk : K (S (l[i]).2.2)) : Eng.asStr (getC (TV l) i 2) F K := by
  have : getC (TV l) i 2 = some (.c (.string (S (l[i]).2.2))) := by simp [getC, TV, eTy, V.cells, h]
  rw [this]; simpa [Eng.asStr] using hk
theorem w64_hi {n : Int} (h0 : 9223372036854775807 < n) (h1 : n ≤ 18446744073709551615) : w64 n = n - 18446744073709551616 := by
  simp only [w64, IntKind.wrap, IntKind.bits, IntKind.signed]
  try simp
  try omega
theorem w64_lo {n : Int} (h0 : -18446744073709551616 ≤ n) (h1 : n < -9223372036854775808) : w64 n = n + 18446744073709551616 := by
  simp only [w64, IntKind.wrap, IntKind.bits, IntKind.signed]
  try simp
  try omega
def i64r (n : Int) : Prop := -9223372036854775808 ≤ n ∧ n ≤ 9223372036854775807
instance (n : Int) : Decidable (i64r n) := inferInstanceAs (Decidable (_ ∧ _))
def recI (l : List Rec) : Prop := ∀ c ∈ l, i64r c.1 ∧ i64r c.2
theorem ssub (a b : Int) (ha : i64r a) (hb : i64r b) {K : Int → Bool → Prop} (h1 : i64r (a - b) → K (a - b) true) (h2 : ¬ i64r (a - b) → K 0 false) : Xnum_Sub a b K := by
  unfold Xnum_Sub Ynum_Sub
  unfold i64r at *
  simp only [lt]
  by_cases e : -9223372036854775808 ≤ a - b ∧ a - b ≤ 9223372036854775807
  · rw [w64_in e.1 e.2]
    have : (!decide (a - b < a) == decide (b > 0)) = false := by
      by_cases hb0 : b > 0
      · simp [hb0]; omega
      · simp [hb0]; omega
    rw [this]
    exact h1 e
  · by_cases hb0 : b > 0
    · rw [w64_lo (by omega) (by omega)]
      have : (!decide (a - b + 18446744073709551616 < a) == decide (b > 0)) = true := by simp [hb0]; omega
      rw [this, if_pos rfl, if_pos (by simp; omega)]
      exact h2 e
    · rw [w64_hi (by omega) (by omega)]
      have : (!decide (a - b - 18446744073709551616 < a) == decide (b > 0)) = true := by simp [hb0]; omega
      rw [this, if_pos rfl, if_pos (by simp; omega)]
      exact h2 e
theorem recOk_cons (k : Nat) (b c : Rec) (r : List Rec) : recOk k b (c :: r) = true ↔ (k ≤ 200 ∧ 0 ≤ c.1 ∧ ((c.2 - b.2 = 0 ∧ r = []) ∨ c.2 - b.2 = 1 ∨ c.2 - b.2 = -1) ∧ (k = 0 ∨ ((c.2 - b.2 = 0 ∧ r = []) ∧ c.1 - b.1 ≥ 0) ∨ (¬ (c.2 - b.2 = 0 ∧ r = []) ∧ c.1 - b.1 ≥ 2419199))) ∧ recOk (k + 1) c r = true := by
  rw [recOk]
  simp only [Bool.and_eq_true, Bool.or_eq_true, decide_eq_true_eq, List.isEmpty_iff]
  by_cases he : c.2 - b.2 = 0 ∧ r = []
  · simp only [he, and_self, if_true, true_or, true_and, not_true, false_and, or_false]
    constructor
    · rintro ⟨⟨⟨⟨h1, h2⟩, _⟩, h4⟩, h5⟩; exact ⟨⟨h1, h2, h4⟩, h5⟩
    · rintro ⟨⟨h1, h2, h4⟩, h5⟩; exact ⟨⟨⟨⟨h1, h2⟩, trivial⟩, h4⟩, h5⟩
  · simp only [he, false_or, if_false, false_and, not_false_iff, true_and]
    constructor
    · rintro ⟨⟨⟨⟨h1, h2⟩, h3⟩, h4⟩, h5⟩; exact ⟨⟨h1, h2, h3, h4⟩, h5⟩
    · rintro ⟨⟨h1, h2, h3, h4⟩, h5⟩; exact ⟨⟨⟨⟨h1, h2⟩, h3⟩, h4⟩, h5⟩
theorem sRecRight (l : List Rec) (hi : recI l) (hlen : l.length ≤ 100000) {K : Bool → Prop} (h : K (recRight l)) : Xrecord_Right (RV l) K := by
  unfold Xrecord_Right Yrecord_Right Xrecord_Check Yrecord_Check
  rw [RV_len]
  refine lp_ind (fun x => (l.length : Nat) - x.1.2.2.2.2.2.2.1.toNat) (fun x => ∃ (j : Nat) (b : Rec), j ≤ l.length ∧ x = ((RV l, (0 : Int), (0 : Int), (), RV l, (l.length : Int), (j : Int), ()), (b.1, b.2, ()), ()) ∧ recOk j b (l.drop j) = recRight l ∧ (0 < j → 0 ≤ b.1) ∧ i64r b.1 ∧ i64r b.2) ?_ ⟨0, (-2419199, 0), by omega, rfl, rfl, by omega, by unfold i64r; decide, by unfold i64r; decide⟩
  rintro x ⟨j, b, hj, rfl, hok, hb0, hb1, hb2⟩ k hk
  unfold Lrecord_Check_0
  simp only [decide_eq_true_eq, RV_len]
  by_cases e : j = l.length
  · rw [if_neg (by omega)]
    have : recRight l = true := by rw [← hok, e, List.drop_length]; rfl
    rw [this] at h
    exact h
  · have hj' : j < l.length := by omega
    obtain ⟨hc1, hc2⟩ := hi l[j] (List.getElem_mem hj')
    rw [Int.toNat_natCast, if_pos (by omega), if_pos (by omega)]
    refine asR1 hj' (asR2 hj' ?_)
    have hd : l.drop j = l[j] :: l.drop (j + 1) := List.drop_eq_getElem_cons hj'
    rw [hd] at hok
    have hre : l.drop (j + 1) = [] ↔ j + 1 = l.length := by rw [List.drop_eq_nil_iff]; omega
    have hcons := recOk_cons j b l[j] (l.drop (j + 1))
    rw [hre, hok] at hcons
    generalize l[j] = c at *
    have e1 : w64 ((j : Int) + 1) = ((j + 1 : Nat) : Int) := by rw [w64_in (by omega) (by omega)]; omega
    have e2 : w64 ((l.length : Int) - 1) = (l.length : Int) - 1 := w64_in (by omega) (by omega)
    have bad : ¬ (j ≤ 200 ∧ 0 ≤ c.1 ∧ ((c.2 - b.2 = 0 ∧ j + 1 = l.length) ∨ c.2 - b.2 = 1 ∨ c.2 - b.2 = -1) ∧ (j = 0 ∨ ((c.2 - b.2 = 0 ∧ j + 1 = l.length) ∧ c.1 - b.1 ≥ 0) ∨ (¬ (c.2 - b.2 = 0 ∧ j + 1 = l.length) ∧ c.1 - b.1 ≥ 2419199))) → K false := fun hn => by
      have : recRight l = false := by
        cases hr : recRight l
        · rfl
        · exact absurd (hcons.1 hr).1 hn
      rw [this] at h; exact h
    have good : (j ≤ 200 ∧ 0 ≤ c.1 ∧ ((c.2 - b.2 = 0 ∧ j + 1 = l.length) ∨ c.2 - b.2 = 1 ∨ c.2 - b.2 = -1) ∧ (j = 0 ∨ ((c.2 - b.2 = 0 ∧ j + 1 = l.length) ∧ c.1 - b.1 ≥ 0) ∨ (¬ (c.2 - b.2 = 0 ∧ j + 1 = l.length) ∧ c.1 - b.1 ≥ 2419199))) →
        k ((RV l, (0 : Int), (0 : Int), (), RV l, (l.length : Int), ((j + 1 : Nat) : Int), ()), (c.1, c.2, ()), ()) := fun hg => by
      refine hk _ ⟨j + 1, c, by omega, rfl, ?_, fun _ => hg.2.1, hc1, hc2⟩ ?_
      · rw [Bool.eq_iff_iff]
        exact ⟨fun hr => hcons.2 ⟨hg, hr⟩, fun hr => (hcons.1 hr).2⟩
      · show l.length - ((j + 1 : Nat) : Int).toNat < l.length - ((j : Nat) : Int).toNat
        omega
    clear hcons hok hk h hd hre
    rw [e1, e2]
    have ew : 0 < j → 0 ≤ c.1 → w64 (c.1 - b.1) = c.1 - b.1 := fun h1 h2 => by
      have := hb0 h1
      unfold i64r at *
      exact w64_in (by omega) (by omega)
    refine ssub c.2 b.2 hc2 hb2 (fun hf => ?_) fun hf => ?_
    · generalize c.2 - b.2 = s at *
      simp only [if_true, beq_iff_eq, Bool.not_eq_true', beq_eq_false_iff_ne, ne_eq, bne_iff_ne, not_true, if_false, Bool.not_true, Bool.false_eq_true]
      repeat' split
      all_goals first
        | (refine bad ?_; omega)
        | (refine good ?_; omega)
        | (refine bad ?_; rw [ew (by omega) (by omega)] at *; omega)
        | (refine good ?_; rw [ew (by omega) (by omega)] at *; omega)
    · simp only [if_true, if_false, Bool.not_false, Bool.false_eq_true]
      unfold i64r at hf
      repeat' split
      all_goals (refine bad ?_; omega)
end Go.Proofs.YtbnpclndiichcaaGreatDoor
end
section
set_option linter.unusedVariables false
set_option linter.unusedSimpArgs false
namespace Go.Proofs.YtbnpclndiichcaaGreatDoor
open Go Go.Proofs.YtbnpclndiichcaaGreatDoor.Eng Go.Proofs.YtbnpclndiichcaaGreatDoor.Pl
set_option linter.unusedVariables false
set_option linter.unusedSimpArgs false
theorem sHasPrefix (l : List UInt8) (c : UInt8) {K} (h : K (l.head? == some c)) : Xinternal_stringslite_HasPrefix (S l) (S [c]) K := by
  unfold Xinternal_stringslite_HasPrefix Yinternal_stringslite_HasPrefix
  simp only [S_size, S_extract, S_toList, decide_eq_true_eq, ge_iff_le, List.length_singleton]
  cases l with
  | nil => exact ifF (by simp) h
  | cons a l =>
    refine ifT (by simp; omega) (ifT (by simp; omega) ?_)
    have e : ((List.take (Int.toNat (((1 : Nat) : Int)) - 0) (List.drop 0 (a :: l)) == [c]) : Bool) = ((a :: l).head? == some c) := by
      simp
    rw [e]; exact h
theorem sCutPrefix (l : List UInt8) (c : UInt8) {K} (h : K (S (cutP c l).1) (cutP c l).2) : Xstrings_CutPrefix (S l) (S [c]) K := by
  unfold Xstrings_CutPrefix Ystrings_CutPrefix Xinternal_stringslite_CutPrefix Yinternal_stringslite_CutPrefix
  refine sHasPrefix l c ?_
  unfold cutP at h
  by_cases e : l.head? = some c
  · rw [if_pos e] at h
    refine ifF (by simp [e]) ?_
    have hl : 1 ≤ l.length := by cases l <;> simp at e ⊢
    simp only [S_size, S_extract, List.length_singleton]
    refine ifT (by omega) (ifT (by omega) ?_)
    have e2 : (l.drop (Int.toNat ((1 : Nat) : Int))).take (Int.toNat (l.length : Int) - Int.toNat ((1 : Nat) : Int)) = l.tail := by
      rw [List.take_of_length_le (by simp)]; simp
    rw [e2]; exact h
  · rw [if_neg e] at h
    exact ifT (by simp [e]) h
theorem sIndex (l : List UInt8) (c : UInt8) {K} (h : K (if nl (· == c) l < l.length then (nl (· == c) l : Int) else -1)) : Xinternal_stringslite_Index (S l) (S [c]) K := by
  unfold Xinternal_stringslite_Index Yinternal_stringslite_Index
  simp only [S_size, S_toList, beq_iff_eq, List.length_singleton]
  refine ifF (by decide) (ifC (fun e => ?_) fun _ => ifT rfl (ifT (by decide) ?_))
  · subst e
    have : nl (· == c) [c] = 0 := by rw [nl_cons]; simp
    rw [this] at h; exact h
  · unfold XindexByte
    rw [indexByte_nl, S_data]
    have : (Eng.bAt (S [c]) 0).toNat.toUInt8 = c := by rw [bAt0]; simp
    rw [this]; exact h
theorem sCut (l : List UInt8) (c : UInt8) (hl : l.length ≤ 140737488351232) {K} (h : K (S (splitL c l).1) (S (splitL c l).2.1) (splitL c l).2.2) : Xstrings_Cut (S l) (S [c]) K := by
  unfold Xstrings_Cut Ystrings_Cut Xinternal_stringslite_Cut Yinternal_stringslite_Cut
  refine sIndex l c ?_
  unfold splitL at h
  simp only [S_size, S_extract, List.length_singleton, decide_eq_true_eq, ge_iff_le]
  by_cases e : nl (· == c) l < l.length
  · rw [if_pos e] at h
    simp only [if_pos e]
    rw [w64_in (by omega) (by omega)]
    refine ifT (by omega) (ifT (by omega) (ifT (by omega) (ifT (by omega) (ifT (by omega) ?_))))
    have e1 : Int.toNat ((nl (· == c) l : Int) + ((1 : Nat) : Int)) = nl (· == c) l + 1 := by omega
    have e2 : Int.toNat ((nl (· == c) l : Int)) = nl (· == c) l := by omega
    rw [e1, e2]
    rw [show (l.drop (nl (· == c) l + 1)).take (Int.toNat (l.length : Int) - (nl (· == c) l + 1)) = l.drop (nl (· == c) l + 1) from List.take_of_length_le (by simp)]
    exact h
  · rw [if_neg e] at h
    simp only [if_neg e]
    exact ifF (by omega) h
theorem sTrimPrefix (l : List UInt8) (c : UInt8) {K} (h : K (S (cutP c l).1)) : Xstrings_TrimPrefix (S l) (S [c]) K := by
  unfold Xstrings_TrimPrefix Ystrings_TrimPrefix Xinternal_stringslite_TrimPrefix Yinternal_stringslite_TrimPrefix
  refine sHasPrefix l c ?_
  unfold cutP at h
  by_cases e : l.head? = some c
  · rw [if_pos e] at h
    refine ifT (by simp [e]) ?_
    have hl : 1 ≤ l.length := by cases l <;> simp at e ⊢
    simp only [S_size, S_extract, List.length_singleton]
    refine ifT (by omega) (ifT (by omega) ?_)
    have e2 : (l.drop (Int.toNat ((1 : Nat) : Int))).take (Int.toNat (l.length : Int) - Int.toNat ((1 : Nat) : Int)) = l.tail := by
      rw [List.take_of_length_le (by simp)]; simp
    rw [e2]; exact h
  · rw [if_neg e] at h
    exact ifF (by simp [e]) h
theorem sIndexFunc {x : Int → (Bool → Prop) → Prop} (q : UInt8 → Bool) (hx : ∀ (c : UInt8) (K : Bool → Prop), c.toNat < 128 → K (q c) → x (c.toNat : Int) K) (hx' : ∀ (n : Nat) (K : Bool → Prop), 128 ≤ n → K true → x (n : Int) K)
    (hq : ∀ c : UInt8, 128 ≤ c.toNat → q c = true) (l : List UInt8) {K : Int → Prop} (h : K (if nl q l < l.length then (nl q l : Int) else -1)) : Ystrings_indexFunc x (S l) true K := by
  unfold Ystrings_indexFunc
  refine lp_ind (fun st => l.length - st.2.1.2) (fun st => st.1.2.1 = true ∧ st.2.1.1 = S l ∧ st.2.1.2 ≤ l.length ∧ ∀ c ∈ l.take st.2.1.2, q c = false) ?_ ⟨rfl, rfl, Nat.zero_le _, by simp⟩
  rintro ⟨⟨⟨_, _⟩, b, r, _, _⟩, ⟨s, pos⟩, _⟩ ⟨h1, h2, h3, h4⟩ k hk
  simp only at h1 h2 h3 h4 hk
  subst h1; subst h2
  unfold Lstrings_indexFunc_0
  simp only [S_size]
  refine ifC (fun hp => ?_) fun hp => ?_
  · by_cases hlo : l[pos].toNat < 128
    · simp only [decode_lo l pos hp hlo]
      refine hx _ _ hlo ?_
      refine ifC (fun hb => ?_) fun hb => ?_
      · have hn : nl q l = pos := nl_of q l pos h3 h4 fun _ => by simpa using hb
        rw [hn, if_pos hp] at h; exact h
      · refine hk _ ⟨rfl, rfl, hp, fun c hc => ?_⟩ (by simp only; omega)
        rw [List.take_add_one, List.mem_append] at hc
        rcases hc with hc | hc
        · exact h4 c hc
        · simp [List.getElem?_eq_getElem hp] at hc
          subst hc; simpa using hb
    · obtain ⟨d1, d2⟩ := decode_hi l pos hp (by omega)
      refine hx' _ _ d1 (ifT rfl ?_)
      have hn : nl q l = pos := nl_of q l pos h3 h4 fun _ => hq _ (by omega)
      rw [hn, if_pos hp] at h; exact h
  · have hpos : pos = l.length := by omega
    have hn : nl q l = l.length := nl_of q l _ (Nat.le_refl _) (by rw [← hpos]; exact h4) fun h => by omega
    rw [hn, if_neg (by omega)] at h; exact h
theorem sgood (n : Int) {K} (h : K (decide ((97 ≤ n ∧ n ≤ 122) ∨ (65 ≤ n ∧ n ≤ 90) ∨ (48 ≤ n ∧ n ≤ 57) ∨ n = 43 ∨ n = 45))) : Xabbr_good n K := by
  unfold Xabbr_good Yabbr_good
  simp only [decide_eq_true_eq, beq_iff_eq, ge_iff_le]
  repeat' (first | refine ifT (by omega) ?_ | refine ifF (by omega) ?_ | refine ifC (fun _ => ?_) (fun _ => ?_))
  all_goals (refine cast (congrArg K ?_) h; first | (rw [decide_eq_true_eq]; omega) | (rw [decide_eq_false_iff_not]; omega) | (apply Bool.eq_iff_iff.2; rw [decide_eq_true_eq, beq_iff_eq]; omega))
theorem sbad (n : Int) {K} (h : K (!decide ((97 ≤ n ∧ n ≤ 122) ∨ (65 ≤ n ∧ n ≤ 90) ∨ (48 ≤ n ∧ n ≤ 57) ∨ n = 43 ∨ n = 45))) : Xabbr_Right_1 n K := by
  unfold Xabbr_Right_1 Yabbr_Right_1
  exact sgood n h
theorem sabbr (l : List UInt8) {K} (h : K (abbrL l)) : Xabbr_Right (S l) K := by
  unfold Xabbr_Right Yabbr_Right
  unfold abbrL at h
  simp only [decide_eq_true_eq, ge_iff_le, S_size]
  by_cases e : 3 ≤ l.length ∧ l.length ≤ 16
  · refine ifT (by omega) (ifT (by omega) ?_)
    unfold Xstrings_ContainsFunc Ystrings_ContainsFunc Xstrings_IndexFunc Ystrings_IndexFunc Xstrings_indexFunc
    refine sIndexFunc badC (fun c K hc h => sbad _ (cast (congrArg K ?_) h)) (fun n K hn h => sbad _ (cast (congrArg K ?_) h)) (fun c hc => ?_) l ?_
    · unfold badC; apply Bool.eq_iff_iff.2; simp; omega
    · symm; simp; omega
    · unfold badC; simp; omega
    · rw [decide_eq_true e, Bool.true_and, nl_any] at h
      by_cases e2 : nl badC l < l.length
      · rw [if_pos e2]; rw [decide_eq_true e2] at h
        refine cast (congrArg K ?_) h; simp
      · rw [if_neg e2]; rw [decide_eq_false e2] at h
        refine cast (congrArg K ?_) h; simp
  · rw [decide_eq_false e, Bool.false_and] at h
    exact ifC (fun _ => ifF (by omega) h) fun _ => h
end Go.Proofs.YtbnpclndiichcaaGreatDoor
end
section
set_option linter.unusedVariables false
set_option linter.unusedSimpArgs false
namespace Go.Proofs.YtbnpclndiichcaaGreatDoor
open Go Go.Proofs.YtbnpclndiichcaaGreatDoor.Eng Go.Proofs.YtbnpclndiichcaaGreatDoor.Pl
set_option linter.unusedVariables false
set_option linter.unusedSimpArgs false
theorem dl_of (l : List UInt8) (k : Nat) (hk : k ≤ l.length) (h1 : ∀ c ∈ l.take k, isDig c = true) (h2 : ∀ h : k < l.length, isDig l[k] = false) : dl l = k := by
  have := nl_of (fun c => !isDig c) l k hk (fun c hc => by simp [h1 c hc]) (fun h => by simp [h2 h])
  rw [← this]; unfold nl dl; simp
theorem sdigits (l : List UInt8) {K} (h : K (dl l : Int)) : Xrule_digits (S l) K := by
  unfold Xrule_digits Yrule_digits
  refine lp_ind (fun st => l.length - st.2.1.2) (fun st => st.1.1 = S l ∧ st.2.1.1 = S l ∧ st.2.1.2 ≤ l.length ∧ ∀ c ∈ l.take st.2.1.2, isDig c = true) ?_ ⟨rfl, rfl, Nat.zero_le _, by simp⟩
  rintro ⟨⟨a0, r, _, _⟩, ⟨s, pos⟩, _⟩ ⟨h1, h2, h3, h4⟩ k hk
  simp only at h1 h2 h3 h4 hk
  subst h1; subst h2
  unfold Lrule_digits_0
  simp only [S_size, decide_eq_true_eq, gt_iff_lt]
  refine ifC (fun hp => ?_) fun hp => ?_
  · by_cases hlo : l[pos].toNat < 128
    · simp only [decode_lo l pos hp hlo]
      by_cases hd : isDig l[pos] = true
      · have hd' := hd
        unfold isDig at hd'
        simp at hd'
        refine ifF (by omega) (ifF (by omega) ?_)
        refine hk _ ⟨rfl, rfl, hp, fun c hc => ?_⟩ (by simp only; omega)
        rw [List.take_add_one, List.mem_append] at hc
        rcases hc with hc | hc
        · exact h4 c hc
        · simp [List.getElem?_eq_getElem hp] at hc
          subst hc; exact hd
      · have hn : dl l = pos := dl_of l pos h3 h4 fun _ => by simpa using hd
        have hd' := hd
        unfold isDig at hd'
        simp at hd'
        rw [hn] at h
        exact ifC (fun _ => h) fun _ => ifT (by omega) h
    · obtain ⟨d1, d2⟩ := decode_hi l pos hp (by omega)
      have hn : dl l = pos := dl_of l pos h3 h4 fun _ => by unfold isDig; simp; omega
      rw [hn] at h
      exact ifF (by omega) (ifT (by omega) h)
  · have hpos : pos = l.length := by omega
    have hn : dl l = l.length := dl_of l _ (Nat.le_refl _) (by rw [← hpos]; exact h4) fun h => by omega
    rw [hn] at h; exact h
theorem satoi (l : List UInt8) (hne : l ≠ []) (hd : ∀ c ∈ l, isDig c = true) (hl : l.length ≤ 18) {K} (h : K (valL l : Int) .nilIface) : Xatoi (S l) K :=
  ⟨_, by rw [S_size]; exact hl, by rw [S_data]; exact atoi_val l hne hd, h⟩
theorem ssixty (l : List UInt8) {K} (h : K (sixtyL l).1 (S (sixtyL l).2.1) (sixtyL l).2.2) : Xrule_sixty (S l) K := by
  unfold Xrule_sixty Yrule_sixty
  simp only [S_size, S_extract, decide_eq_true_eq, gt_iff_lt, bne_iff_ne, ne_eq]
  match l, h with
  | [], h => exact ifT (by simp) h
  | [_], h => exact ifT (by simp) h
  | [_, _], h => exact ifT (by simp) h
  | c :: a :: b :: r, h =>
    have hlen : (c :: a :: b :: r).length = r.length + 3 := rfl
    rw [hlen]
    refine ifF (by omega) (ifT (by omega) ?_)
    rw [bAt0, bAt1]
    simp only [sixtyL] at h
    by_cases hc : c = 58
    · subst hc
      refine ifF (by simp) (ifT (by omega) (ifT (by omega) ?_))
      have e1 : ((58 :: a :: b :: r).drop 1).take (Int.toNat ((r.length + 3 : Nat) : Int) - 1) = a :: b :: r := by
        rw [List.drop_succ_cons, List.drop_zero, List.take_of_length_le (by simp; omega)]
      rw [e1]
      refine sdigits _ ?_
      rw [dl_cons, dl_cons]
      by_cases ha : isDig a = true
      · by_cases hb : isDig b = true
        · rw [if_pos ha, if_pos hb]
          refine ifF (by omega) (ifT (by omega) ?_)
          by_cases h5 : a.toNat ≤ 53
          · rw [if_pos ⟨rfl, ha, hb, h5⟩] at h
            refine ifF (by omega) (ifT (by omega) ?_)
            have e2 : ((58 :: a :: b :: r).drop 1).take (3 - 1) = [a, b] := rfl
            rw [e2]
            refine satoi [a, b] (by simp) (by simp [ha, hb]) (by simp) (ifT (by omega) (ifT (by omega) ?_))
            have e3 : ((58 :: a :: b :: r).drop 3).take (Int.toNat ((r.length + 3 : Nat) : Int) - 3) = r := by
              rw [show (58 :: a :: b :: r).drop 3 = r from rfl, List.take_of_length_le (by omega)]
            rw [e3]
            unfold isDig at ha hb
            simp at ha hb
            have e4 : (valL [a, b] : Int) = 10 * (a.toNat - 48) + (b.toNat - 48) := by simp [valL]; omega
            rw [e4]; exact h
          · rw [if_neg (by rintro ⟨_, _, _, h⟩; exact h5 h)] at h
            exact ifT (by omega) h
        · rw [if_neg (by rintro ⟨_, _, h, _⟩; exact hb h)] at h
          rw [if_pos ha, if_neg hb]
          exact ifT (by omega) h
      · rw [if_neg (by rintro ⟨_, h, _⟩; exact ha h)] at h
        rw [if_neg ha]
        exact ifT (by omega) h
    · rw [if_neg (by rintro ⟨h, _⟩; exact hc h)] at h
      refine ifT (fun h => hc (u8_eq ?_)) h
      have : c.toNat = 58 := by omega
      exact this
theorem smore (p : Int × List UInt8 × Bool) {K} (h : K (moreL p).1 (S (moreL p).2.1) (moreL p).2.2) : Xrule_more (S p.2.1) p.2.2 K := by
  unfold Xrule_more Yrule_more
  unfold moreL at h
  by_cases e : p.2.2 = true
  · rw [if_pos e] at h
    exact ifF (by simp [e]) (ssixty _ h)
  · rw [if_neg e] at h
    exact ifT (by simpa using e) h
theorem more_bd (t : List UInt8) : 0 ≤ (moreL (sixtyL t)).1 ∧ (moreL (sixtyL t)).1 ≤ 59 := by
  unfold moreL; split
  · exact sixty_bd _
  · simp
theorem stime (l : List UInt8) (hl : l.length ≤ 140737488351232) {K} (h : K (timeL l).1 (S (timeL l).2.1) (timeL l).2.2) : Xrule_Time (S l) K := by
  unfold Xrule_Time Yrule_Time
  have key : ∀ (t : List UInt8) (sg : Int), (sg = 1 ∨ sg = -1) → t.length ≤ l.length → signL l = (sg, t) →
      (dl t = 0 → K 0 (S l) false) ∧ (dl t ≠ 0 → ∃ v k : Nat, hourL t = (v, k) ∧ v ≤ 167 ∧ 1 ≤ k ∧ k ≤ dl t ∧ k ≤ 3 ∧
        K (sg * ((v : Int) * 3600 + (sixtyL (t.drop k)).1 * 60 + (moreL (sixtyL (t.drop k))).1)) (S (moreL (sixtyL (t.drop k))).2.1) true) := by
    intro t sg hsg ht he
    unfold timeL at h
    rw [he] at h
    refine ⟨fun h0 => by rw [if_pos h0] at h; exact h, fun h0 => ?_⟩
    rw [if_neg h0] at h
    obtain ⟨b1, b2, b3, b4⟩ := hour_bd t
    exact ⟨_, _, rfl, b1, b4 h0, b2, b3, h⟩
  have mn : ∀ t : List UInt8, (if (3 : Int) < (dl t : Int) then (3 : Int) else (dl t : Int)) = ((min (dl t) 3 : Nat) : Int) := fun t => by split <;> omega
  have hval : ∀ t : List UInt8, dl t ≠ 0 → ∀ {K : Int → Value → Prop}, K (valL (t.take (min (dl t) 3)) : Int) .nilIface → Xatoi (S ((t.drop 0).take (Int.toNat ((min (dl t) 3 : Nat) : Int) - 0))) K := fun t h0 K hK => by
    rw [List.drop_zero, Nat.sub_zero, Int.toNat_natCast]
    have hlen : (t.take (min (dl t) 3)).length = min (dl t) 3 := by rw [List.length_take]; have := dl_le t; omega
    exact satoi _ (fun e => by rw [e] at hlen; simp at hlen; omega) (take_dl_dig t _ (Nat.min_le_left _ _)) (by omega) hK
  have tdiv : ∀ v : Nat, Int.tdiv (v : Int) 10 = ((v / 10 : Nat) : Int) := fun v => by rw [Int.tdiv_eq_ediv_of_nonneg (by omega)]; rfl
  have fin : ∀ (t : List UInt8) (k : Nat), (t.drop k).take (t.length - k) = t.drop k := fun t k => List.take_of_length_le (by simp)
  refine sTrimPrefix l 45 ?_
  by_cases h45 : l.head? = some 45
  · obtain ⟨t, rfl⟩ : ∃ t, l = 45 :: t := by cases l with
      | nil => simp at h45
      | cons a t => simp at h45; subst h45; exact ⟨t, rfl⟩
    have e : (cutP 45 (45 :: t)).1 = t := rfl
    rw [e]
    obtain ⟨k1, k2⟩ := key t (-1) (.inr rfl) (by simp) rfl
    have hdl := dl_le t
    simp only [S_size, S_extract, beq_iff_eq, decide_eq_true_eq, gt_iff_lt]
    simp only [List.length_cons] at hl ⊢
    refine ifF (by omega) (sdigits _ ?_)
    rw [mn]
    refine ifC (fun h0 => k1 (by omega)) fun h0 => ?_
    have h0' : dl t ≠ 0 := by omega
    obtain ⟨v, kk, hh, b1, b2, b3, b4, hK⟩ := k2 h0'
    refine ifT (by omega) (ifT (by omega) (hval t h0' ?_))
    unfold hourL at hh
    by_cases hg : valL (t.take (min (dl t) 3)) > 167
    · rw [if_pos hg] at hh
      obtain ⟨rfl, rfl⟩ : _ = v ∧ _ = kk := by simpa using hh
      refine ifT (by omega) (ifT (by omega) ?_)
      rw [w64_in (n := ((min (dl t) 3 : Nat) : Int) - 1) (by omega) (by omega), show ((min (dl t) 3 : Nat) : Int) - 1 = ((min (dl t) 3 - 1 : Nat) : Int) by omega]
      refine ifT (by omega) ?_
      simp only [lt, Int.toNat_natCast, fin, tdiv]
      refine ssixty _ (smore _ ?_)
      have hs := sixty_bd (t.drop (min (dl t) 3 - 1))
      have hm := more_bd (t.drop (min (dl t) 3 - 1))
      generalize valL (t.take (min (dl t) 3)) / 10 = v at *
      generalize (sixtyL (t.drop (min (dl t) 3 - 1))).1 = a at *
      generalize (moreL (sixtyL (t.drop (min (dl t) 3 - 1)))).1 = b at *
      rw [w64_in (n := (v : Int)) (by omega) (by omega), w64_in (n := (v : Int) * 3600) (by omega) (by omega), w64_in (n := a * 60) (by omega) (by omega), w64_in (n := (v : Int) * 3600 + a * 60) (by omega) (by omega), w64_in (n := (v : Int) * 3600 + a * 60 + b) (by omega) (by omega), w64_in (by omega) (by omega)]
      exact hK
    · rw [if_neg hg] at hh
      obtain ⟨rfl, rfl⟩ : _ = v ∧ _ = kk := by simpa using hh
      refine ifF (by omega) (ifT (by omega) (ifT (by omega) ?_))
      simp only [lt, Int.toNat_natCast, fin]
      refine ssixty _ (smore _ ?_)
      have hs := sixty_bd (t.drop (min (dl t) 3))
      have hm := more_bd (t.drop (min (dl t) 3))
      generalize valL (t.take (min (dl t) 3)) = v at *
      generalize (sixtyL (t.drop (min (dl t) 3))).1 = a at *
      generalize (moreL (sixtyL (t.drop (min (dl t) 3)))).1 = b at *
      rw [w64_in (n := (v : Int) * 3600) (by omega) (by omega), w64_in (n := a * 60) (by omega) (by omega), w64_in (n := (v : Int) * 3600 + a * 60) (by omega) (by omega), w64_in (n := (v : Int) * 3600 + a * 60 + b) (by omega) (by omega), w64_in (by omega) (by omega)]
      exact hK
  · have e : (cutP 45 l).1 = l := by unfold cutP; rw [if_neg h45]
    rw [e]
    refine ifT (by simp) (sTrimPrefix l 43 ?_)
    have hs : ∃ t, signL l = (1, t) ∧ (cutP 43 l).1 = t ∧ t.length ≤ l.length := by
      unfold signL cutP
      cases l with
      | nil => exact ⟨[], rfl, rfl, Nat.le_refl _⟩
      | cons a r =>
        have ha : a ≠ 45 := by simpa using h45
        simp only [if_neg ha, List.head?_cons, Option.some.injEq, List.tail_cons]
        by_cases h43 : a = 43
        · simp [h43]
        · simp [h43]
    obtain ⟨t, h1, h2, h3⟩ := hs
    rw [h2]
    obtain ⟨k1, k2⟩ := key t 1 (.inl rfl) h3 h1
    have hdl := dl_le t
    simp only [S_size, S_extract, beq_iff_eq, decide_eq_true_eq, gt_iff_lt]
    refine sdigits _ ?_
    rw [mn]
    refine ifC (fun h0 => k1 (by omega)) fun h0 => ?_
    have h0' : dl t ≠ 0 := by omega
    obtain ⟨v, kk, hh, b1, b2, b3, b4, hK⟩ := k2 h0'
    refine ifT (by omega) (ifT (by omega) (hval t h0' ?_))
    unfold hourL at hh
    by_cases hg : valL (t.take (min (dl t) 3)) > 167
    · rw [if_pos hg] at hh
      obtain ⟨rfl, rfl⟩ : _ = v ∧ _ = kk := by simpa using hh
      refine ifT (by omega) (ifT (by omega) ?_)
      rw [w64_in (n := ((min (dl t) 3 : Nat) : Int) - 1) (by omega) (by omega), show ((min (dl t) 3 : Nat) : Int) - 1 = ((min (dl t) 3 - 1 : Nat) : Int) by omega]
      refine ifT (by omega) ?_
      simp only [lt, Int.toNat_natCast, fin, tdiv]
      refine ssixty _ (smore _ ?_)
      have hs := sixty_bd (t.drop (min (dl t) 3 - 1))
      have hm := more_bd (t.drop (min (dl t) 3 - 1))
      generalize valL (t.take (min (dl t) 3)) / 10 = v at *
      generalize (sixtyL (t.drop (min (dl t) 3 - 1))).1 = a at *
      generalize (moreL (sixtyL (t.drop (min (dl t) 3 - 1)))).1 = b at *
      rw [w64_in (n := (v : Int)) (by omega) (by omega), w64_in (n := (v : Int) * 3600) (by omega) (by omega), w64_in (n := a * 60) (by omega) (by omega), w64_in (n := (v : Int) * 3600 + a * 60) (by omega) (by omega), w64_in (n := (v : Int) * 3600 + a * 60 + b) (by omega) (by omega), w64_in (by omega) (by omega)]
      exact hK
    · rw [if_neg hg] at hh
      obtain ⟨rfl, rfl⟩ : _ = v ∧ _ = kk := by simpa using hh
      refine ifF (by omega) (ifT (by omega) (ifT (by omega) ?_))
      simp only [lt, Int.toNat_natCast, fin]
      refine ssixty _ (smore _ ?_)
      have hs := sixty_bd (t.drop (min (dl t) 3))
      have hm := more_bd (t.drop (min (dl t) 3))
      generalize valL (t.take (min (dl t) 3)) = v at *
      generalize (sixtyL (t.drop (min (dl t) 3))).1 = a at *
      generalize (moreL (sixtyL (t.drop (min (dl t) 3)))).1 = b at *
      rw [w64_in (n := (v : Int) * 3600) (by omega) (by omega), w64_in (n := a * 60) (by omega) (by omega), w64_in (n := (v : Int) * 3600 + a * 60) (by omega) (by omega), w64_in (n := (v : Int) * 3600 + a * 60 + b) (by omega) (by omega), w64_in (by omega) (by omega)]
      exact hK
end Go.Proofs.YtbnpclndiichcaaGreatDoor
end
section
set_option linter.unusedVariables false
set_option linter.unusedSimpArgs false
namespace Go.Proofs.YtbnpclndiichcaaGreatDoor
open Go Go.Proofs.YtbnpclndiichcaaGreatDoor.Eng Go.Proofs.YtbnpclndiichcaaGreatDoor.Pl
set_option linter.unusedVariables false
set_option linter.unusedSimpArgs false
theorem take_all (t : List UInt8) (k : Nat) : (t.drop k).take (t.length - k) = t.drop k := List.take_of_length_le (by simp)
theorem swithin (n a b : Int) {K} (h : K (decide (a ≤ n ∧ n ≤ b))) : Xrule_within n a b K := by
  unfold Xrule_within Yrule_within
  simp only [decide_eq_true_eq, ge_iff_le]
  refine ifC (fun h1 => cast (congrArg K ?_) h) fun h1 => cast (congrArg K ?_) h
  · simp [h1]
  · simp [h1]
theorem sruleRight (k a b c x : Int) {K} (h : K (rightR k a b c x)) : Xrule_Right (k, a, b, c, x, ()) K := by
  unfold Xrule_Right Yrule_Right
  simp only [beq_iff_eq, decide_eq_true_eq, gt_iff_lt]
  refine swithin _ _ _ ?_
  have fin : ∀ z : Bool, (z = true ↔ ((-604799 ≤ x ∧ x ≤ 604799) ∧ ((k = 0 ∧ 1 ≤ a ∧ a ≤ 12 ∧ 1 ≤ b ∧ b ≤ 5 ∧ 0 ≤ c ∧ c ≤ 6) ∨ (k = 1 ∧ 1 ≤ a ∧ a ≤ 365 ∧ b = 0 ∧ c = 0) ∨ (k = 2 ∧ 0 ≤ a ∧ a ≤ 365 ∧ b = 0 ∧ c = 0)))) → K z := fun z hz =>
    cast (congrArg K (Bool.eq_iff_iff.2 ((right_iff k a b c x).trans hz.symm))) h
  clear h
  refine ifC (fun k0 => ?_) fun k0 => ?_
  · refine ifC (fun hx => ?_) fun hx => fin _ ?_
    · refine swithin _ _ _ (ifC (fun ha => swithin _ _ _ (ifC (fun hb => swithin _ _ _ (fin _ ?_)) fun hb => fin _ ?_)) fun ha => fin _ ?_)
      all_goals (simp only [decide_eq_true_eq, Bool.false_eq_true, false_iff] at *; omega)
    · simp only [decide_eq_true_eq, Bool.false_eq_true, false_iff] at *; omega
  · refine ifC (fun k1 => ?_) fun k1 => ifC (fun k2 => ?_) fun k2 => fin _ (by simp only [Bool.false_eq_true, false_iff]; omega)
    · refine ifC (fun hx => ifC (fun ha => swithin _ _ _ (ifC (fun hb => ifC (fun hc => fin _ ?_) fun hc => fin _ ?_) fun hb => fin _ ?_)) fun ha => fin _ ?_) fun hx => fin _ ?_
      all_goals (simp only [decide_eq_true_eq, Bool.false_eq_true, false_iff, beq_iff_eq] at *; omega)
    · refine ifC (fun hx => swithin _ _ _ (ifC (fun hb => ifC (fun hc => fin _ ?_) fun hc => fin _ ?_) fun hb => fin _ ?_)) fun hx => fin _ ?_
      all_goals (simp only [decide_eq_true_eq, Bool.false_eq_true, false_iff, beq_iff_eq] at *; omega)
theorem snumber (l : List UInt8) (m : Nat) (hm : m ≤ 18) {K} (h : K (numberL l m).1 (S (numberL l m).2.1) (numberL l m).2.2) : Xrule_number (S l) (m : Int) K := by
  unfold Xrule_number Yrule_number
  refine sdigits _ ?_
  have hd := dl_le l
  unfold numberL at h
  simp only [beq_iff_eq, decide_eq_true_eq, gt_iff_lt, S_size, S_extract, Int.toNat_natCast, take_all, List.drop_zero, Nat.sub_zero]
  by_cases e : dl l = 0 ∨ m < dl l
  · rw [if_pos e] at h
    exact ifC (fun _ => h) fun _ => ifT (by omega) h
  · rw [if_neg e] at h
    refine ifF (by omega) (ifF (by omega) (ifT (by omega) (ifT (by omega) ?_)))
    have hlen : (l.take (dl l)).length = dl l := by rw [List.length_take]; omega
    exact satoi _ (fun e => by rw [e] at hlen; simp at hlen; omega) (take_dl_dig l _ (Nat.le_refl _)) (by omega) (ifT (by omega) (ifT (by omega) h))
theorem sweek (l : List UInt8) {K} (h : K (0, (weekL l).1, (weekL l).2.1, (weekL l).2.2.1, 0, ()) (S (weekL l).2.2.2.1) (weekL l).2.2.2.2) : Xrule_week (S l) K := by
  unfold Xrule_week Yrule_week
  refine snumber l 2 (by omega) (sCutPrefix _ _ (snumber _ 1 (by omega) (sCutPrefix _ _ (snumber _ 1 (by omega) ?_))))
  unfold weekL at h
  generalize numberL l 2 = p at *
  generalize cutP 46 p.2.1 = q at *
  generalize numberL q.1 1 = r at *
  generalize cutP 46 r.2.1 = t at *
  generalize numberL t.1 1 = u at *
  obtain ⟨p1, p2, p3⟩ := p
  obtain ⟨q1, q2⟩ := q
  obtain ⟨r1, r2, r3⟩ := r
  obtain ⟨t1, t2⟩ := t
  obtain ⟨u1, u2, u3⟩ := u
  simp only at h ⊢
  cases p3 <;> cases r3 <;> cases u3 <;> cases q2 <;> simpa using h
theorem sdate (l : List UInt8) {K} (h : K ((dateL l).1, (dateL l).2.1, (dateL l).2.2.1, (dateL l).2.2.2.1, 0, ()) (S (dateL l).2.2.2.2.1) (dateL l).2.2.2.2.2) : Xrule_date (S l) K := by
  unfold Xrule_date Yrule_date
  refine sCutPrefix _ _ ?_
  unfold dateL at h
  unfold cutP
  by_cases e : l.head? = some 77
  · rw [if_pos e] at h ⊢
    exact ifT rfl (sweek _ h)
  · rw [if_neg e] at h ⊢
    refine ifF (by simp) (sCutPrefix _ _ ?_)
    unfold cutP
    by_cases e2 : l.head? = some 74
    · rw [if_pos e2] at h ⊢
      exact ifT rfl (snumber _ 3 (by omega) h)
    · rw [if_neg e2] at h ⊢
      exact ifF (by simp) (snumber _ 3 (by omega) h)
theorem date_len (l : List UInt8) : (dateL l).2.2.2.2.1.length ≤ l.length := by
  obtain ⟨j, _, e, _⟩ := dateL_drop l
  rw [e, List.length_drop]; omega
theorem sruleParse (l : List UInt8) (hl : l.length ≤ 140737488351232) {K} (h : K ((parseL l).1, (parseL l).2.1, (parseL l).2.2.1, (parseL l).2.2.2.1, (parseL l).2.2.2.2.1, ()) (S (parseL l).2.2.2.2.2.1) (parseL l).2.2.2.2.2.2) : Xrule_Parse (S l) K := by
  unfold Xrule_Parse Yrule_Parse
  refine sdate _ (sCutPrefix _ _ ?_)
  have hlen := date_len l
  unfold parseL at h
  generalize dateL l = d at *
  obtain ⟨dk, da, db, dc, dt, ok⟩ := d
  simp only at h hlen ⊢
  unfold cutP
  by_cases e : dt.head? = some 47
  · rw [if_pos e] at h ⊢
    cases ok
    · simp only [Bool.false_eq_true, if_false] at h
      exact ifF (by simp) (ifT rfl h)
    · simp only [if_true] at h
      refine ifT rfl (ifT rfl (stime _ (by rw [List.length_tail]; omega) ?_))
      by_cases e2 : (timeL dt.tail).2.2 = true
      · refine ifF (by simp [e2]) (sruleRight _ _ _ _ _ ?_)
        by_cases e3 : rightR dk da db dc (timeL dt.tail).1 = true
        · rw [if_pos ⟨e2, e3⟩] at h
          exact ifF (by simp [e3]) h
        · rw [if_neg (fun h => e3 h.2)] at h
          exact ifT (by simpa using e3) h
      · rw [if_neg (fun h => e2 h.1)] at h
        exact ifT (by simpa using e2) h
  · rw [if_neg e] at h ⊢
    cases ok
    · simp only [Bool.false_eq_true, if_false] at h
      exact ifF (by simp) (ifT rfl h)
    · simp only [if_true] at h
      refine ifT rfl (ifF (by simp) (ifF (by simp) (sruleRight _ _ _ _ _ ?_)))
      by_cases e3 : rightR dk da db dc 7200 = true
      · rw [if_pos e3] at h
        exact ifF (by simp [e3]) h
      · rw [if_neg e3] at h
        exact ifT (by simpa using e3) h
end Go.Proofs.YtbnpclndiichcaaGreatDoor
end
section
set_option linter.unusedVariables false
set_option linter.unusedSimpArgs false
namespace Go.Proofs.YtbnpclndiichcaaGreatDoor
open Go Go.Proofs.YtbnpclndiichcaaGreatDoor.Eng Go.Proofs.YtbnpclndiichcaaGreatDoor.Pl
set_option linter.unusedVariables false
set_option linter.unusedSimpArgs false
theorem tmod_leap (y : Int) : (Int.tmod y 4 = 0 ↔ y % 4 = 0) ∧ (Int.tmod y 100 = 0 ↔ y % 100 = 0) ∧ (Int.tmod y 400 = 0 ↔ y % 400 = 0) := by
  refine ⟨?_, ?_, ?_⟩ <;> rw [← Int.dvd_iff_emod_eq_zero, Int.dvd_iff_tmod_eq_zero]
theorem sleap (y : Int) {K} (h : K (leapY y)) : Xday_Leap y K := by
  unfold Xday_Leap Yday_Leap
  obtain ⟨t1, t2, t3⟩ := tmod_leap y
  have fin : ∀ z : Bool, (z = true ↔ (y % 4 = 0 ∧ (y % 100 ≠ 0 ∨ y % 400 = 0))) → K z := fun z hz => cast (congrArg K (Bool.eq_iff_iff.2 ((leapY_iff y).trans hz.symm))) h
  simp only [beq_iff_eq, bne_iff_ne, ne_eq, t1, t2]
  refine ifC (fun h1 => ifC (fun h2 => fin _ ?_) fun h2 => fin _ ?_) fun h1 => fin _ ?_
  · simp; omega
  · rw [beq_iff_eq, t3]; omega
  · simp; omega
theorem slast (y m : Int) {K} (h : K (if 1 ≤ y ∧ y ≤ 9999 ∧ 1 ≤ m ∧ m ≤ 12 then dim y m else 0) (decide (1 ≤ y ∧ y ≤ 9999 ∧ 1 ≤ m ∧ m ≤ 12))) : Xday_Last y m K := by
  unfold Xday_Last Yday_Last
  simp only [decide_eq_true_eq, gt_iff_lt]
  by_cases e : 1 ≤ y ∧ y ≤ 9999 ∧ 1 ≤ m ∧ m ≤ 12
  · rw [if_pos e, decide_eq_true e] at h
    refine ifF (by omega) (ifF (by omega) (ifF (by omega) (ifF (by omega) ?_)))
    rw [w64_in (by omega) (by omega)]
    refine ifT (by omega) ?_
    rcases month_cases e.2.2.1 e.2.2.2 with rfl | rfl | rfl | rfl | rfl | rfl | rfl | rfl | rfl | rfl | rfl | rfl
    all_goals
      simp only [Int.sub_self, Int.reduceSub, Int.reduceToNat, Nat.reduceMul, List.getElem?_cons_zero, List.getElem?_cons_succ, Eng.asInt, if_true, beq_iff_eq, Int.toNat_zero, Nat.zero_mul, beq_self_eq_true, Int.reduceBEq, Bool.false_eq_true, if_false]
      first
      | exact h
      | (refine sleap _ ?_
         unfold dim at h
         rw [if_pos rfl] at h
         refine ifC (fun hl => ?_) fun hl => ?_
         · rw [if_pos hl] at h; exact h
         · rw [if_neg hl] at h; exact h)
  · rw [if_neg e, decide_eq_false e] at h
    exact ifC (fun _ => h) fun _ => ifC (fun _ => h) fun _ => ifC (fun _ => h) fun _ => ifT (by omega) h
theorem ediv_in (a b : Int) (h0 : -9223372036854775808 ≤ a) (h1 : a ≤ 9223372036854775807) (hb : 1 ≤ b) : -9223372036854775808 ≤ a / b ∧ a / b ≤ 9223372036854775807 := by
  constructor
  · have : a ≤ a / b ∨ 0 ≤ a / b := by
      by_cases hn : 0 ≤ a
      · exact .inr (Int.ediv_nonneg hn (by omega))
      · refine .inl (Int.le_ediv_of_mul_le (by omega) ?_)
        have : (b - 1) * a ≤ 0 := Int.mul_nonpos_of_nonneg_of_nonpos (by omega) (by omega)
        rw [Int.sub_mul, Int.mul_comm b a] at this
        omega
    omega
  · have := Int.ediv_le_self (a := a) b
    by_cases hn : 0 ≤ a
    · have := this hn; omega
    · have := Int.ediv_neg_of_neg_of_pos (by omega : a < 0) (by omega : 0 < b); omega
theorem sdiv (a b : Int) (h0 : -9223372036854775808 ≤ a) (h1 : a ≤ 9223372036854775807) (hb : 1 ≤ b) (hb' : b ≤ 9223372036854775807) {K} (h : K (a / b) (a % b) true) : Xnum_Div a b K := by
  unfold Xnum_Div Ynum_Div
  have hm := Int.emod_nonneg a (by omega : b ≠ 0)
  have hm2 := Int.emod_lt_of_pos a (by omega : 0 < b)
  obtain ⟨hq1, hq2⟩ := ediv_in a b h0 h1 hb
  simp only [decide_eq_true_eq, lt]
  refine ifF (by omega) (ifF (by omega) (ifF (by omega) ?_))
  by_cases hn : 0 ≤ a
  · rw [Int.tmod_eq_emod_of_nonneg hn, Int.tdiv_eq_ediv_of_nonneg hn]
    refine ifF (by omega) ?_
    rw [w64_in hq1 hq2]; exact h
  · by_cases hz : a % b = 0
    · have hd : b ∣ a := Int.dvd_of_emod_eq_zero hz
      have e1 : Int.tmod a b = 0 := Int.tmod_eq_zero_of_dvd hd
      have e2 : Int.tdiv a b = a / b := by
        obtain ⟨c, rfl⟩ := hd
        rw [Int.mul_tdiv_cancel_left _ (by omega), Int.mul_ediv_cancel_left _ (by omega)]
      rw [e1, e2]
      refine ifF (by omega) ?_
      rw [w64_in hq1 hq2, ← hz]; exact h
    · have e1 : Int.tmod a b = a % b - b := by
        rw [Int.tmod_eq_emod]
        have : ¬ (0 ≤ a ∨ b ∣ a) := by
          rintro (h | h)
          · exact hn h
          · exact hz (Int.emod_eq_zero_of_dvd h)
        rw [if_neg this]
        have : (b.natAbs : Int) = b := by omega
        omega
      have e2 : Int.tdiv a b = a / b + 1 := by
        have := Int.mul_tdiv_add_tmod a b
        rw [e1] at this
        have hdm := Int.mul_ediv_add_emod a b
        have h2 : b * (Int.tdiv a b) = b * (a / b + 1) := by rw [Int.mul_add]; omega
        exact Int.eq_of_mul_eq_mul_left (by omega) h2
      have hlt : a / b < 0 := Int.ediv_neg_of_neg_of_pos (by omega) (by omega)
      rw [e1, e2]
      refine ifT (by omega) ?_
      rw [w64_in (n := a / b + 1) (by omega) (by omega), w64_in (by omega) (by omega), w64_in (by omega) (by omega), show a / b + 1 - 1 = a / b by omega, show a % b - b + b = a % b by omega]
      exact h
theorem sweekday (n : Int) (h0 : -9223372036854775808 ≤ n) (h1 : n ≤ 9223372036854775807) {K} (h : K (wk n)) : Xday_Week n K := by
  unfold Xday_Week Yday_Week
  have ht : -7 < Int.tmod n 7 ∧ Int.tmod n 7 < 7 ∧ (Int.tmod n 7 + 4) % 7 = (n + 4) % 7 := by
    rw [Int.tmod_eq_emod]; split <;> simp <;> omega
  rw [w64_in (by omega) (by omega)]
  refine sdiv _ _ (by omega) (by omega) (by omega) (by omega) ?_
  rw [ht.2.2]; exact h
def okD (y m d : Int) : Prop := 1 ≤ y ∧ y ≤ 9999 ∧ 1 ≤ m ∧ m ≤ 12 ∧ 1 ≤ d ∧ d ≤ dim y m
instance (y m d : Int) : Decidable (okD y m d) := by unfold okD; infer_instance
theorem snum (y m d : Int) (hd0 : -9223372036854775808 ≤ d) (hd1 : d ≤ 9223372036854775807) {K} (h : K (if okD y m d then num y m d else 0) (decide (okD y m d))) : Xday_Number y m d K := by
  unfold Xday_Number Yday_Number
  refine slast _ _ ?_
  simp only [decide_eq_true_eq, gt_iff_lt, lt]
  by_cases e : 1 ≤ y ∧ y ≤ 9999 ∧ 1 ≤ m ∧ m ≤ 12
  · rw [decide_eq_true e, if_pos e]
    refine ifF (by simp) ?_
    by_cases e2 : 1 ≤ d ∧ d ≤ dim y m
    · have ok : okD y m d := ⟨e.1, e.2.1, e.2.2.1, e.2.2.2, e2.1, e2.2⟩
      rw [if_pos ok, decide_eq_true ok] at h
      refine ifF (by omega) (ifF (by omega) ?_)
      have hd := dim_bd y m
      rw [← numP_eq e.2.2.1 e.2.2.2] at h
      unfold numP sy sm at h
      refine ifC (fun hm => ?_) fun hm => ?_
      · rw [if_pos hm, if_pos hm] at h
        rw [w64_in (n := y - 1) (by omega) (by omega)]
        refine sdiv _ _ (by omega) (by omega) (by omega) (by omega) ?_
        have b1 : 0 ≤ (y - 1) % 400 ∧ (y - 1) % 400 ≤ 399 := by omega
        have b2 : 0 ≤ (y - 1) / 400 ∧ (y - 1) / 400 ≤ 25 := by omega
        generalize (y - 1) % 400 = r at *
        generalize (y - 1) / 400 = q at *
        simp (disch := omega) only [w64_in, Int.tdiv_eq_ediv_of_nonneg]
        refine cast (congrArg (fun z => K z true) ?_) h
        omega
      · rw [if_neg hm, if_neg hm] at h
        refine sdiv _ _ (by omega) (by omega) (by omega) (by omega) ?_
        have b1 : 0 ≤ y % 400 ∧ y % 400 ≤ 399 := by omega
        have b2 : 0 ≤ y / 400 ∧ y / 400 ≤ 25 := by omega
        generalize y % 400 = r at *
        generalize y / 400 = q at *
        simp (disch := omega) only [w64_in, Int.tdiv_eq_ediv_of_nonneg]
        refine cast (congrArg (fun z => K z true) ?_) h
        omega
    · have ok : ¬ okD y m d := fun h => e2 h.2.2.2.2
      rw [if_neg ok, decide_eq_false ok] at h
      exact ifC (fun _ => h) fun _ => ifT (by omega) h
  · have ok : ¬ okD y m d := fun h => e ⟨h.1, h.2.1, h.2.2.1, h.2.2.2.1⟩
    rw [if_neg ok, decide_eq_false ok] at h
    rw [decide_eq_false e]
    exact ifT rfl h
theorem sday (n : Int) {K} (h : if -719162 ≤ n ∧ n ≤ 2932896 then K (yearP n) (monP n) (dayP n) true else K 0 0 0 false) : Xday_Date n K := by
  unfold Xday_Date Yday_Date
  simp only [decide_eq_true_eq, gt_iff_lt, lt]
  by_cases e : -719162 ≤ n ∧ n ≤ 2932896
  · rw [if_pos e] at h
    refine ifF (by omega) (ifF (by omega) ?_)
    rw [w64_in (n := n + 719468) (by omega) (by omega)]
    refine sdiv _ _ (by omega) (by omega) (by omega) (by omega) ?_
    have b1 : 0 ≤ (n + 719468) / 146097 ∧ (n + 719468) / 146097 ≤ 25 := by omega
    have b2 : 0 ≤ (n + 719468) % 146097 ∧ (n + 719468) % 146097 ≤ 146096 := by omega
    have hv := doy_bd (by omega : -719162 ≤ n) (by omega)
    unfold yearP monP dayP mon doy yrs era ofE at *
    generalize (n + 719468) / 146097 = q at *
    generalize (n + 719468) % 146097 = o at *
    have hg : 0 ≤ gy o ∧ gy o ≤ 146096 ∧ gy o = o - o / 1460 + o / 36524 - o / 146096 := by unfold gy; omega
    simp (disch := omega) only [w64_in, Int.tdiv_eq_ediv_of_nonneg]
    rw [← hg.2.2]
    have hY : 0 ≤ gy o / 365 ∧ gy o / 365 ≤ 400 := by omega
    have hS : st (gy o / 365) = 365 * (gy o / 365) + gy o / 365 / 4 - gy o / 365 / 100 := rfl
    rw [hS] at hv h
    generalize o - (365 * (gy o / 365) + gy o / 365 / 4 - gy o / 365 / 100) = D at *
    simp (disch := omega) only [w64_in, Int.tdiv_eq_ediv_of_nonneg]
    refine ifC (fun hm => ?_) fun hm => ?_
    · rw [if_pos (by omega), if_pos (by omega)] at h; exact h
    · rw [if_neg (by omega), if_neg (by omega)] at h; exact h
  · rw [if_neg e] at h
    exact ifC (fun _ => h) fun _ => ifT (by omega) h
theorem sruleDay (k a b c x y : Int) {K} (h : K (if (1 ≤ y ∧ y ≤ 9999) ∧ rightR k a b c x = true then ruleDay k a b c y else 0) (decide ((1 ≤ y ∧ y ≤ 9999) ∧ rightR k a b c x = true))) : Xrule_Day (k, a, b, c, x, ()) y K := by
  unfold Xrule_Day Yrule_Day
  refine snum _ _ _ (by omega) (by omega) ?_
  simp only [decide_eq_true_eq, gt_iff_lt, ge_iff_le, lt, beq_iff_eq]
  have h1 : okD y 1 1 ↔ (1 ≤ y ∧ y ≤ 9999) := by unfold okD; have := dim_jan y; omega
  by_cases ey : 1 ≤ y ∧ y ≤ 9999
  · rw [if_pos (h1.2 ey), decide_eq_true (h1.2 ey)]
    refine ifF (by simp) (sruleRight _ _ _ _ _ ?_)
    by_cases e : rightR k a b c x = true
    · rw [if_pos ⟨ey, e⟩, decide_eq_true ⟨ey, e⟩] at h
      refine ifF (by simp [e]) ?_
      obtain ⟨hx, hr⟩ := (right_iff k a b c x).1 e
      have hf := fst_bd ey.1 ey.2
      have hf2 := fst_succ y
      rw [num_first] 
      unfold ruleDay at h
      refine ifC (fun k2 => ?_) fun k2 => ?_
      · rw [if_pos k2] at h
        rw [w64_in (by omega) (by omega)]; exact h
      · rw [if_neg k2] at h
        refine ifC (fun k1 => ?_) fun k1 => ?_
        · rw [if_pos k1] at h
          refine ifC (fun ha => ?_) fun ha => sleap _ ?_
          · rw [if_pos (.inl ha)] at h
            rw [w64_in (n := fst y - 1) (by omega) (by omega), w64_in (by omega) (by omega)]; exact h
          · refine ifC (fun hl => ?_) fun hl => ?_
            · rw [if_pos (.inr (by simpa using hl))] at h
              rw [w64_in (n := fst y - 1) (by omega) (by omega), w64_in (by omega) (by omega)]; exact h
            · rw [if_neg (by rintro (h | h); exact ha h; simp [h] at hl)] at h
              rw [w64_in (by omega) (by omega)]; exact h
        · rw [if_neg k1] at h
          refine snum _ _ _ (by omega) (by omega) (slast _ _ ?_)
          have hok : okD y a 1 := ⟨ey.1, ey.2, by omega, by omega, by omega, by have := dim_bd y a; omega⟩
          have hv : Vld y a 1 := ⟨ey.1, ey.2, by omega, by omega, by omega, by have := dim_bd y a; omega⟩
          have hn := num_range hv
          rw [if_pos hok, if_pos ⟨ey.1, ey.2, by omega, by omega⟩]
          refine sweekday _ (by omega) (by omega) ?_
          have hw : 0 ≤ wk (num y a 1) ∧ wk (num y a 1) < 7 := by unfold wk; omega
          have hd := dim_bd y a
          unfold offW at h
          simp only at h
          generalize num y a 1 = n at *
          generalize wk n = w at *
          generalize dim y a = D at *
          rw [w64_in (n := b - 1) (by omega) (by omega), w64_in (n := 7 * (b - 1)) (by omega) (by omega), w64_in (n := c - w) (by omega) (by omega), w64_in (n := c - w + 7) (by omega) (by omega), Int.tmod_eq_emod_of_nonneg (by omega)]
          rw [w64_in (n := (c - w + 7) % 7 + 7 * (b - 1)) (by omega) (by omega)]
          refine ifC (fun hk => ?_) fun hk => ?_
          · rw [if_pos (by omega)] at h
            rw [w64_in (n := (c - w + 7) % 7 + 7 * (b - 1) - 7) (by omega) (by omega), w64_in (by omega) (by omega)]; exact h
          · rw [if_neg (by omega)] at h
            rw [w64_in (by omega) (by omega)]; exact h
    · rw [if_neg (fun h => e h.2), decide_eq_false (fun h => e h.2)] at h
      exact ifT (by simpa using e) h
  · rw [if_neg (fun h => ey h.1), decide_eq_false (fun h => ey h.1)] at h
    have : ¬ okD y 1 1 := fun h => ey (h1.1 h)
    rw [decide_eq_false this]
    exact ifT rfl h
/-- A rule's second of a year, from the first of 1970 on. -/
def ruleAt (k a b c x y : Int) : Int := ruleDay k a b c y * 86400 + x
theorem sruleAt (k a b c x y : Int) {K} (h : K (if (1 ≤ y ∧ y ≤ 9999) ∧ rightR k a b c x = true then ruleAt k a b c x y else 0) (decide ((1 ≤ y ∧ y ≤ 9999) ∧ rightR k a b c x = true))) : Xrule_At (k, a, b, c, x, ()) y K := by
  unfold Xrule_At Yrule_At
  refine sruleDay _ _ _ _ _ _ ?_
  simp only [decide_eq_true_eq, lt]
  by_cases e : (1 ≤ y ∧ y ≤ 9999) ∧ rightR k a b c x = true
  · rw [if_pos e, decide_eq_true e] at h ⊢
    refine ifF (by simp) ?_
    obtain ⟨hx, hr⟩ := (right_iff k a b c x).1 e.2
    have hf := fst_bd e.1.1 e.1.2
    have hf2 := fst_succ y
    have hb := ruleDay_bd e.1 e.2
    rw [w64_in (n := ruleDay k a b c y * 86400) (by omega) (by omega), w64_in (by omega) (by omega)]
    exact h
  · rw [if_neg e, decide_eq_false e] at h
    rw [decide_eq_false e]
    exact ifT rfl h
theorem sadd (a b : Int) (ha : -9223372036854775808 ≤ a ∧ a ≤ 9223372036854775807) (hb : -9223372036854775808 ≤ b ∧ b ≤ 9223372036854775807) {K}
    (h : if -9223372036854775808 ≤ a + b ∧ a + b ≤ 9223372036854775807 then K (a + b) true else K 0 false) : Xnum_Add a b K := by
  unfold Xnum_Add Ynum_Add
  simp only [lt, bne_iff_ne, ne_eq]
  by_cases e : -9223372036854775808 ≤ a + b ∧ a + b ≤ 9223372036854775807
  · rw [if_pos e] at h
    rw [w64_in e.1 e.2]
    exact ifC (fun h1 => ifC (fun h2 => absurd h1 (by simp; omega)) fun _ => h) fun _ => h
  · rw [if_neg e] at h
    have hw : w64 (a + b) = if a + b < 0 then a + b + 18446744073709551616 else a + b - 18446744073709551616 := by
      unfold w64 IntKind.wrap
      simp [IntKind.bits, IntKind.signed]
      split <;> omega
    rw [hw]
    refine ifT ?_ (ifT (by omega) h)
    split <;> simp <;> omega
end Go.Proofs.YtbnpclndiichcaaGreatDoor
end
section
set_option linter.unusedVariables false
set_option linter.unusedSimpArgs false
namespace Go.Proofs.YtbnpclndiichcaaGreatDoor
open Go Go.Proofs.YtbnpclndiichcaaGreatDoor.Eng Go.Proofs.YtbnpclndiichcaaGreatDoor.Pl
set_option linter.unusedVariables false
set_option linter.unusedSimpArgs false
abbrev tupRu (r : Ru) : Int × Int × Int × Int × Int × Unit := (r.k, r.a, r.b, r.c, r.x, ())
abbrev tupFt (f : Ft) : Int × Bool × ByteArray × Int × Bool × ByteArray × Bool × Int × Int × Int × Int × Int × Int × Int × Int × Int × Int × Unit :=
  (f.so, f.sd, S f.sa, f.wo, f.wd, S f.wa, f.has, f.fr.k, f.fr.a, f.fr.b, f.fr.c, f.fr.x, f.to.k, f.to.a, f.to.b, f.to.c, f.to.x, ())
theorem skind (o : Int) (d : Bool) (l : List UInt8) (w : Bool) {K} (h : K (kindR o d l w)) : Xfoot_kind (o, d, S l, ()) w K := by
  unfold Xfoot_kind Yfoot_kind
  refine sabbr l ?_
  unfold kindR at h
  simp only [ge_iff_le, decide_eq_true_eq, beq_iff_eq]
  by_cases e1 : abbrL l = true
  · refine ifT e1 ?_
    by_cases e2 : d = w
    · refine ifT e2 ?_
      simp only [e1, e2, beq_self_eq_true, Bool.true_and] at h
      refine ifC (fun e3 => cast (congrArg K ?_) h) fun e3 => cast (congrArg K ?_) h
      · simp [e3]
      · simp [e3]
    · exact ifF e2 (cast (congrArg K (by simp [e2])) h)
  · exact ifF e1 (cast (congrArg K (by simp [e1])) h)
theorem sfootRight (f : Ft) {K} (h : K f.ok) : Xfoot_Right (tupFt f) K := by
  unfold Xfoot_Right Yfoot_Right
  refine skind _ _ _ _ ?_
  unfold Ft.ok at h
  by_cases e1 : kindR f.so f.sd f.sa false = true
  · refine ifF (by simp [e1]) ?_
    rw [e1, Bool.true_and] at h
    refine ifC (fun e2 => ?_) fun e2 => ?_
    · rw [if_pos e2] at h
      refine skind _ _ _ _ ?_
      by_cases e3 : kindR f.wo f.wd f.wa true = true
      · refine ifT e3 (sruleRight _ _ _ _ _ ?_)
        rw [e3, Bool.true_and] at h
        by_cases e4 : f.fr.ok = true
        · refine ifT e4 (sruleRight _ _ _ _ _ ?_)
          rw [e4, Bool.true_and] at h
          exact h
        · exact ifF e4 (cast (congrArg K (by simp [e4])) h)
      · exact ifF e3 (cast (congrArg K (by simp [e3])) h)
    · rw [if_neg e2] at h
      have key : ∀ z : Bool, (z = true ↔ f.bare) → K z := fun z hz => cast (congrArg K (Bool.eq_iff_iff.2 (decide_eq_true_iff.trans hz.symm))) h
      have e2' : f.has = false := by simpa using e2
      simp only [lt]
      refine key _ ?_
      unfold Ft.bare
      simp [e2', S_toList]
      constructor <;> intro hh <;> simp [hh]
  · exact ifT (by simpa using e1) (cast (congrArg K (by simp [e1])) h)
theorem splain (n : Int) {K} (h : K (decide ((97 ≤ n ∧ n ≤ 122) ∨ (65 ≤ n ∧ n ≤ 90)))) : Xfoot_plain n K := by
  unfold Xfoot_plain Yfoot_plain
  simp only [decide_eq_true_eq, ge_iff_le]
  repeat' (first | refine ifT (by omega) ?_ | refine ifF (by omega) ?_ | refine ifC (fun _ => ?_) (fun _ => ?_))
  all_goals (refine cast (congrArg K ?_) h; apply Bool.eq_iff_iff.2; simp only [decide_eq_true_eq, Bool.false_eq_true, true_iff, iff_true, iff_false]; omega)
theorem letQ (c : UInt8) : (!decide ((97 ≤ (c.toNat : Int) ∧ (c.toNat : Int) ≤ 122) ∨ (65 ≤ (c.toNat : Int) ∧ (c.toNat : Int) ≤ 90))) = !letC c := by
  unfold letC; congr 1; apply Bool.eq_iff_iff.2; simp; omega
theorem letH (c : UInt8) (hc : 128 ≤ c.toNat) : (!letC c) = true := by
  unfold letC; simp; omega
theorem sname (l : List UInt8) (hl : l.length ≤ 140737488351232) {a1 a2 a3 a4 a5 a6 a7 a8 a9 a10 a11 a12 a13 a14 a15 a16 a17} {K} (h : K (S (nameP l).1) (nameP l).2.1 (S (nameP l).2.2) a1 a2 a3 a4 a5 a6 a7 a8 a9 a10 a11 a12 a13 a14 a15 a16 a17) : Xfoot_reader_name (S l) a1 a2 a3 a4 a5 a6 a7 a8 a9 a10 a11 a12 a13 a14 a15 a16 a17 K := by
  unfold Xfoot_reader_name Yfoot_reader_name
  refine sCutPrefix _ _ ?_
  unfold nameP at h
  unfold cutP
  by_cases e : l.head? = some 60
  · rw [if_pos e] at h ⊢
    refine ifT rfl (sCut _ _ (by rw [List.length_tail]; omega) ?_)
    generalize splitL 62 l.tail = p at *
    obtain ⟨p1, p2, p3⟩ := p
    simp only at h ⊢
    cases p3
    · simp only [Bool.false_and] at h
      exact ifF (by simp) h
    · simp only [Bool.true_and] at h
      exact ifT rfl (sabbr _ h)
  · rw [if_neg e] at h ⊢
    refine ifF (by simp) ?_
    unfold Xstrings_IndexFunc_1 Ystrings_IndexFunc_1 Xstrings_indexFunc_1
    have sn : ∀ (n : Int) {K : Bool → Prop}, K (!decide ((97 ≤ n ∧ n ≤ 122) ∨ (65 ≤ n ∧ n ≤ 90))) → Xfoot_reader_name_1 n K := fun n K h => by
      unfold Xfoot_reader_name_1 Yfoot_reader_name_1; exact splain n h
    refine sIndexFunc (fun c => !letC c) (fun c K hc h => sn _ (cast (congrArg K (letQ c).symm) h)) (fun n K hn h => sn _ (cast (congrArg K ?_) h)) letH l ?_
    · symm; simp; omega
    · have hn := nl_le (fun c => !letC c) l
      generalize nl (fun c => !letC c) l = k at *
      simp only [S_size, S_extract, decide_eq_true_eq, List.drop_zero, Nat.sub_zero, take_all, Int.toNat_natCast]
      by_cases e2 : k < l.length
      · rw [if_pos e2]
        simp only [Int.toNat_natCast, take_all, List.drop_zero, Nat.sub_zero]
        exact ifF (by omega) (ifT (by omega) (ifT (by omega) (ifT (by omega) (ifT (by omega) (sabbr _ h)))))
      · rw [if_neg e2]
        have : k = l.length := by omega
        subst this
        refine ifT (by omega) (ifT (by omega) (ifT (by omega) (ifT (by omega) (sabbr _ ?_))))
        exact h
theorem name_len (l : List UInt8) : (nameP l).2.2.length ≤ l.length ∧ (nameP l).1.length ≤ l.length := by
  unfold nameP splitL
  repeat' split
  all_goals simp
  all_goals omega
theorem time_bd (l : List UInt8) : -604799 ≤ (timeL l).1 ∧ (timeL l).1 ≤ 604799 ∧ (timeL l).2.1.length ≤ l.length := by
  obtain ⟨j, _, e, _, h1, h2, _⟩ := time_drop l
  rw [e, List.length_drop]; exact ⟨h1, h2, by omega⟩
theorem susual (l : List UInt8) (hl : l.length ≤ 140737488351232) {a1 a2 a3 a4 a5 a6 a7 a8 a9 a10 a11 a12 a13 a14 a15 a16 a17} {K} (h : K (usualP l).ok (S (usualP l).rest) (usualP l).o false (S (usualP l).a) a4 a5 a6 a7 a8 a9 a10 a11 a12 a13 a14 a15 a16 a17) : Xfoot_reader_usual (S l) a1 a2 a3 a4 a5 a6 a7 a8 a9 a10 a11 a12 a13 a14 a15 a16 a17 K := by
  unfold Xfoot_reader_usual Yfoot_reader_usual
  have hn := name_len l
  refine sname l hl (stime _ (by omega) ?_)
  have ht := time_bd (nameP l).2.2
  rw [w64_in (by omega) (by omega), Int.zero_sub]
  unfold usualP at h
  simp only at h
  by_cases e : (nameP l).2.1 = true
  · rw [e, Bool.true_and] at h
    exact ifT e h
  · rw [Bool.eq_false_iff.2 e, Bool.false_and] at h
    exact ifF e h
theorem ssummer (l : List UInt8) (hl : l.length ≤ 140737488351232) {a1 a2 a3 a4 a5 a6 a7 a8 a9 a10 a11 a12 a13 a14 a15 a16 a17} (ha : -604799 ≤ a1 ∧ a1 ≤ 604799) {K} (h : K (summerP a1 l).ok (S (summerP a1 l).rest) a1 a2 a3 (summerP a1 l).o true (S (summerP a1 l).a) true a8 a9 a10 a11 a12 a13 a14 a15 a16 a17) : Xfoot_reader_summer (S l) a1 a2 a3 a4 a5 a6 a7 a8 a9 a10 a11 a12 a13 a14 a15 a16 a17 K := by
  unfold Xfoot_reader_summer Yfoot_reader_summer
  have hn := name_len l
  refine sname l hl (stime _ (by omega) ?_)
  have ht := time_bd (nameP l).2.2
  rw [w64_in (n := 0 - _) (by omega) (by omega), Int.zero_sub, w64_in (by omega) (by omega)]
  unfold summerP at h
  by_cases e : (timeL (nameP l).2.2).2.2 = true
  · rw [if_pos e] at h
    exact ifT e h
  · rw [if_neg e] at h
    exact ifF e h
theorem cut_len (c : UInt8) (l : List UInt8) : (cutP c l).1.length ≤ l.length := by
  unfold cutP; split
  · rw [List.length_tail]; omega
  · exact Nat.le_refl _
theorem srule (l : List UInt8) (hl : l.length ≤ 140737488351232) {a1 a2 a3 a4 a5 a6 a7 a8 a9 a10 a11 a12 a13 a14 a15 a16 a17} {K} (h : K (ruleP l).ok (S (ruleP l).rest) a1 a2 a3 a4 a5 a6 a7 (ruleP l).r.k (ruleP l).r.a (ruleP l).r.b (ruleP l).r.c (ruleP l).r.x a13 a14 a15 a16 a17) : Xfoot_reader_rule (S l) a1 a2 a3 a4 a5 a6 a7 a8 a9 a10 a11 a12 a13 a14 a15 a16 a17 K := by
  unfold Xfoot_reader_rule Yfoot_reader_rule
  have hc := cut_len 44 l
  refine sCutPrefix _ _ (sruleParse _ (by omega) ?_)
  unfold ruleP at h
  simp only at h
  by_cases e : (parseL (cutP 44 l).1).2.2.2.2.2.2 = true
  · rw [e, Bool.true_and] at h
    exact ifT e h
  · rw [Bool.eq_false_iff.2 e, Bool.false_and] at h
    exact ifF e h
theorem srule1 (l : List UInt8) (hl : l.length ≤ 140737488351232) {a1 a2 a3 a4 a5 a6 a7 a8 a9 a10 a11 a12 a13 a14 a15 a16 a17} {K} (h : K (ruleP l).ok (S (ruleP l).rest) a1 a2 a3 a4 a5 a6 a7 a8 a9 a10 a11 a12 (ruleP l).r.k (ruleP l).r.a (ruleP l).r.b (ruleP l).r.c (ruleP l).r.x) : Xfoot_reader_rule_1 (S l) a1 a2 a3 a4 a5 a6 a7 a8 a9 a10 a11 a12 a13 a14 a15 a16 a17 K := by
  unfold Xfoot_reader_rule_1 Yfoot_reader_rule_1
  have hc := cut_len 44 l
  refine sCutPrefix _ _ (sruleParse _ (by omega) ?_)
  unfold ruleP at h
  simp only at h
  by_cases e : (parseL (cutP 44 l).1).2.2.2.2.2.2 = true
  · rw [e, Bool.true_and] at h
    exact ifT e h
  · rw [Bool.eq_false_iff.2 e, Bool.false_and] at h
    exact ifF e h
theorem rule_len (l : List UInt8) : (ruleP l).rest.length ≤ l.length := by
  have hc := cut_len 44 l
  unfold ruleP
  simp only
  cases e : (parseL (cutP 44 l).1).2.2.2.2.2.2
  · rw [parse_bad _ e]; exact hc
  · obtain ⟨_, j, _, h1, h2⟩ := parse_good _ e
    rw [h2, List.length_drop]; omega
theorem usual_len (l : List UInt8) : (usualP l).rest.length ≤ l.length ∧ -604799 ≤ (usualP l).o ∧ (usualP l).o ≤ 604799 := by
  have hn := name_len l
  have ht := time_bd (nameP l).2.2
  unfold usualP
  simp only
  omega
theorem summer_len (so : Int) (l : List UInt8) : (summerP so l).rest.length ≤ l.length := by
  have hn := name_len l
  have ht := time_bd (nameP l).2.2
  unfold summerP
  split <;> simp only <;> omega
theorem sfootParse (l : List UInt8) (hl : l.length ≤ 140737488351232) {K} (h : K (tupFt (Ft.parse l).1) (Ft.parse l).2) : Xfoot_Parse (S l) K := by
  unfold Xfoot_Parse Yfoot_Parse
  have hu := usual_len l
  have hs := summer_len (usualP l).o (usualP l).rest
  have hr := rule_len (summerP (usualP l).o (usualP l).rest).rest
  refine susual l hl ?_
  unfold Ft.parse at h
  by_cases e1 : (usualP l).ok = true
  · rw [if_pos e1] at h
    refine ifF (by simp [e1]) ?_
    simp only [S_toList]
    by_cases e2 : (usualP l).rest = []
    · rw [if_pos e2] at h
      refine ifT (by simp [e2]) (ifF (by simp [e2]) (sfootRight ⟨(usualP l).o, false, (usualP l).a, 0, false, [], false, .z, .z⟩ ?_))
      unfold Ft.chk at h
      refine ifC (fun e3 => ?_) fun e3 => ?_
      · rw [if_neg (by simpa using e3)] at h; exact h
      · rw [if_pos (by simpa using e3)] at h; exact h
    · rw [if_neg e2] at h
      refine ifF (by simp [e2]) (ssummer _ (by omega) (by omega) ?_)
      by_cases e3 : (summerP (usualP l).o (usualP l).rest).ok = true
      · rw [if_pos e3] at h
        refine ifF (by simp [e3]) ?_
        unfold Xfoot_reader_from Yfoot_reader_from
        refine srule _ (by omega) ?_
        by_cases e4 : (ruleP (summerP (usualP l).o (usualP l).rest).rest).ok = true
        · rw [if_pos e4] at h
          refine ifF (by simp [e4]) ?_
          unfold Xfoot_reader_to Yfoot_reader_to
          refine srule1 _ (by omega) ?_
          by_cases e5 : (ruleP (ruleP (summerP (usualP l).o (usualP l).rest).rest).rest).ok = true
          · rw [if_pos e5] at h
            refine ifF (by simp [e5]) ?_
            simp only [S_toList]
            by_cases e6 : (ruleP (ruleP (summerP (usualP l).o (usualP l).rest).rest).rest).rest = []
            · rw [if_pos e6] at h
              refine ifF (by simp [e6]) (sfootRight ⟨(usualP l).o, false, (usualP l).a, (summerP (usualP l).o (usualP l).rest).o, true, (summerP (usualP l).o (usualP l).rest).a, true, (ruleP (summerP (usualP l).o (usualP l).rest).rest).r, (ruleP (ruleP (summerP (usualP l).o (usualP l).rest).rest).rest).r⟩ ?_)
              unfold Ft.chk at h
              refine ifC (fun e3 => ?_) fun e3 => ?_
              · rw [if_neg (by simpa using e3)] at h; exact h
              · rw [if_pos (by simpa using e3)] at h; exact h
            · rw [if_neg e6] at h
              exact ifT (by simp [e6]) h
          · rw [if_neg e5] at h
            exact ifT (by simpa using e5) h
        · rw [if_neg e4] at h
          exact ifT (by simpa using e4) h
      · rw [if_neg e3] at h
        exact ifT (by simpa using e3) h
  · rw [if_neg e1] at h
    exact ifT (by simpa using e1) h
end Go.Proofs.YtbnpclndiichcaaGreatDoor
end
section
set_option linter.unusedVariables false
set_option linter.unusedSimpArgs false
namespace Go.Proofs.YtbnpclndiichcaaGreatDoor
open Go Go.Proofs.YtbnpclndiichcaaGreatDoor.Eng Go.Proofs.YtbnpclndiichcaaGreatDoor.Pl
set_option linter.unusedVariables false
set_option linter.unusedSimpArgs false
set_option maxRecDepth 100000
set_option maxHeartbeats 2000000
theorem RV_cut (l : List Rec) (a n : Nat) : cutL (RV l) a n = RV ((l.drop a).take n) := by simp [cutL, RV]
theorem getD_at {α : Type} (l : List α) (i : Nat) (d : α) (h : i < l.length) : l.getD i d = l[i] := by
  rw [List.getD_eq_getElem?_getD, List.getElem?_eq_getElem h]; rfl
theorem sLeaps (l : List Rec) (hl : l.length ≤ 100000) {K} (h : K (RV (leapsR l)) false true) : Xrecord_leaps (RV l) K := by
  unfold Xrecord_leaps Yrecord_leaps
  simp only [RV_len, beq_iff_eq, decide_eq_true_eq]
  have e1 : w64 ((l.length : Int) - 1) = (l.length : Int) - 1 := w64_in (by omega) (by omega)
  have e2 : w64 ((l.length : Int) - 1 - 1) = (l.length : Int) - 1 - 1 := w64_in (by omega) (by omega)
  rw [e1, e2]
  simp only [lt]
  have cut : ∀ n : Nat, n = l.length - 1 → cutL (RV l) 0 (Int.toNat ((l.length : Int) - 1) - 0) = RV (l.take n) := fun n hn => by
    rw [RV_cut, List.drop_zero]; congr 2; omega
  unfold leapsR at h
  by_cases h1 : l.length = 1
  · have g := getD_at l 0 (0, 0) (by omega)
    have le : lastExp l = ((l[0]'(by omega)).2 == 0) := by
      unfold lastExp
      rw [g]; simp [h1]
    rw [if_pos (by omega), if_pos (by omega)]
    refine asR2 (by omega) ?_
    by_cases h2 : (l[0]'(by omega)).2 = 0
    · rw [if_pos h2, if_pos h2, if_pos (by omega), if_pos (by omega), cut _ rfl]
      rw [le, h2, if_pos (beq_self_eq_true _)] at h
      exact h
    · rw [if_neg h2, if_neg (by omega)]
      rw [le, if_neg (by simpa using h2)] at h
      exact h
  · rw [if_neg (by omega)]
    by_cases h2 : 1 < l.length
    · have g1 := getD_at l (l.length - 1) (0, 0) (by omega)
      have g2 := getD_at l (l.length - 2) (0, 0) (by omega)
      have le : lastExp l = ((l[l.length - 1]'(by omega)).2 == (l[l.length - 2]'(by omega)).2) := by
        unfold lastExp
        rw [g1, g2]; simp [h1, h2]
      rw [if_pos (by omega), if_pos (by omega)]
      have t1 : Int.toNat ((l.length : Int) - 1) = l.length - 1 := by omega
      have t2 : Int.toNat ((l.length : Int) - 1 - 1) = l.length - 2 := by omega
      rw [t1, t2] at *
      refine asR2 (by omega) ?_
      rw [if_pos (by omega)]
      refine asR2 (by omega) ?_
      by_cases h3 : (l[l.length - 1]'(by omega)).2 = (l[l.length - 2]'(by omega)).2
      · have cut2 : cutL (RV l) 0 (l.length - 1 - 0) = RV (l.take (l.length - 1)) := by rw [RV_cut]; simp
        rw [if_pos h3, if_pos (by omega), if_pos (by omega), cut2]
        rw [le, h3, if_pos (beq_self_eq_true _)] at h
        exact h
      · rw [if_neg h3]
        rw [le, if_neg (by simpa using h3)] at h
        exact h
    · have le : lastExp l = false := by
        unfold lastExp
        simp [h1, h2]
      rw [if_neg (by omega)]
      rw [le, if_neg (by simp)] at h
      exact h
theorem lastExp_pos {l : List Rec} (h : lastExp l = true) : 1 ≤ l.length := by
  unfold lastExp at h
  simp only [Bool.or_eq_true, Bool.and_eq_true, decide_eq_true_eq] at h
  omega
theorem leapsR_len (l : List Rec) : (leapsR l).length = if lastExp l = true then l.length - 1 else l.length := by
  unfold leapsR
  split
  · rw [List.length_take]; omega
  · rfl
theorem sExpiry (l : List Rec) (hl : l.length ≤ 100000) {K : Int → Bool → Prop} (h : ∀ n, K n (lastExp l)) : Xrecord_Expiry (RV l) K := by
  unfold Xrecord_Expiry Yrecord_Expiry
  refine sLeaps l hl ?_
  simp only [RV_len, decide_eq_true_eq, leapsR_len]
  cases e : lastExp l
  · rw [if_neg (by simp)]
    have := h 0
    rw [e] at this; exact this
  · have := lastExp_pos e
    rw [if_pos (by simp; omega), if_pos (by simp; omega)]
    simp only [if_true, Int.toNat_natCast]
    refine asR1 (by omega) ?_
    have := h (l[l.length - 1]'(by omega)).1
    rw [e] at this; exact this
/-- Names that were laid, and where. -/
def hadM (hs : List (List UInt8 × Int)) : List (Value × V) := hs.map fun x => (.string (S x.1), .c (.int .i64 x.2))
theorem bs_beq (a b : List UInt8) : (S a == S b) = (a == b) := by
  rw [Bool.eq_iff_iff, MapKept.bytes_beq, beq_iff_eq]
  constructor
  · intro h
    rw [← S_toList a, ← S_toList b, h]
  · intro h; rw [h]
theorem get_had (s : List UInt8) : ∀ hs : List (List UInt8 × Int), mpGet (S s) (hadM hs) = some ((hs.find? fun x => x.1 == s).map fun x => V.c (.int .i64 x.2))
  | [] => rfl
  | x :: hs => by
    show (bif S s == S x.1 then _ else _) = _
    rw [bs_beq, List.find?_cons]
    by_cases e : s = x.1
    · rw [e]; simp
    · have e1 : (s == x.1) = false := by simpa using e
      have e2 : (x.1 == s) = false := by simpa using Ne.symm e
      rw [e1, e2]
      exact get_had s hs
theorem put_had (s : List UInt8) (p : Int) : ∀ hs : List (List UInt8 × Int), hs.find? (fun x => x.1 == s) = none → mpPut (S s) (.c (.int .i64 p)) (hadM hs) = hadM (hs ++ [(s, p)])
  | [], _ => rfl
  | x :: hs, h => by
    rw [List.find?_cons] at h
    cases e : (x.1 == s)
    · rw [e] at h
      have e1 : (s == x.1) = false := by
        rw [beq_eq_false_iff_ne] at e ⊢; exact Ne.symm e
      show (bif S s == S x.1 then _ else _) = _
      rw [bs_beq, e1]
      show _ :: mpPut (S s) _ (hadM hs) = _
      rw [put_had s p hs h]; rfl
    · rw [e] at h; cases h
theorem poolN_congr : ∀ (l a b : List (List UInt8)), (∀ s, a.contains s = b.contains s) → poolN a l = poolN b l
  | [], a, b, h => rfl
  | s :: r, a, b, h => by
    rw [poolN, poolN, h s]
    split
    · exact poolN_congr r a b h
    · rw [poolN_congr r (s :: a) (s :: b) fun t => by simp only [List.contains_cons, h t]]
theorem poolN_le : ∀ (l a : List (List UInt8)), (∀ s ∈ l, s.length ≤ 10000) → poolN a l ≤ 10001 * l.length
  | [], a, h => by simp [poolN]
  | s :: r, a, h => by
    rw [poolN, List.length_cons]
    have h1 := h s (.head _)
    split
    · have := poolN_le r a fun t ht => h t (.tail _ ht); omega
    · have := poolN_le r (s :: a) fun t ht => h t (.tail _ ht); omega
def NV (l : List (List UInt8)) : List V := l.map fun s => .c (.string (S s))
theorem NV_len (l : List (List UInt8)) : (NV l).length = l.length := by simp [NV]
theorem asN {l : List (List UInt8)} {i : Nat} (h : i < l.length) {F : Prop} {K : ByteArray → Prop} (hk : K (S l[i])) : Eng.asStr (getC (NV l) i 0) F K := by
  have : getC (NV l) i 0 = some (.c (.string (S l[i]))) := by simp [getC, NV, V.cells, h]
  rw [this]; simpa [Eng.asStr] using hk
theorem room8 (n : Nat) (h : n ≤ 100000000) : roomOk n 8 = true := by
  unfold roomOk; simp only [decide_eq_true_eq]; omega
theorem room16 (n : Nat) (h : n ≤ 100000000) : roomOk n 16 = true := by
  unfold roomOk; simp only [decide_eq_true_eq]; omega
theorem room32 (n : Nat) (h : n ≤ 100000000) : roomOk n 32 = true := by
  unfold roomOk; simp only [decide_eq_true_eq]; omega
theorem sPool (l : List (List UInt8)) (hl : l.length ≤ 1000) (hs : ∀ s ∈ l, s.length ≤ 10000) {K : ByteArray → Bool → List V → Bool → Bool → Prop}
    (h : ∀ p at' o z, p.size ≤ 100000000 → (l.all abbrL && decide (poolN [] l ≤ 256)) = true → p.size = poolN [] l → K p true at' o z)
    (h' : (l.all abbrL && decide (poolN [] l ≤ 256)) = false → ∀ p at' o z, K p false at' o z) : Xabbr_Pool (NV l) K := by
  unfold Xabbr_Pool Yabbr_Pool
  rw [NV_len]
  refine lp_ind (fun x => l.length - x.1.2.2.2.2.2.2.1.toNat) (fun x => ∃ (j : Nat) (p : List UInt8) (hd : List (List UInt8 × Int)) (at' : List V), j ≤ l.length ∧ x = ((S p, (), false, (), NV l, (l.length : Int), (j : Int), ()), hadM hd, at', ()) ∧
    (l.take j).all abbrL = true ∧ p.length + poolN (hd.map (·.1)) (l.drop j) = poolN [] l ∧ at'.length = j) ?_ ⟨0, [], [], [], by omega, rfl, rfl, by simp, rfl⟩
  rintro x ⟨j, p, hd, at', hj, rfl, hall, hp, hat⟩ k hk
  have hle := poolN_le l [] hs
  unfold Labbr_Pool_0
  simp only [decide_eq_true_eq, NV_len]
  by_cases e : j = l.length
  · rw [if_neg (by omega)]
    rw [e, List.take_length] at hall
    rw [e, List.drop_length] at hp
    have hp' : p.length = poolN [] l := by simpa [poolN] using hp
    by_cases h2 : ((S p).size : Int) > 256
    · rw [if_pos h2]
      rw [S_size] at h2
      exact h' (by rw [hall]; simp; omega) _ _ _ _
    · rw [if_neg h2]
      rw [S_size] at h2
      exact h _ _ _ _ (by rw [S_size]; omega) (by rw [hall]; simp; omega) (by rw [S_size]; exact hp')
  · have hj' : j < l.length := by omega
    rw [Int.toNat_natCast, if_pos (by omega), if_pos (by omega)]
    refine asN hj' ?_
    refine sabbr _ ?_
    have hd' : l.drop j = l[j] :: l.drop (j + 1) := List.drop_eq_getElem_cons hj'
    have ht : l.take (j + 1) = l.take j ++ [l[j]] := List.take_succ_eq_append_getElem hj'
    have hsl := hs l[j] (List.getElem_mem hj')
    have hmem := List.getElem_mem hj'
    rw [hd'] at hp
    generalize l[j] = s at *
    cases ha : abbrL s
    · simp only [Bool.not_false, if_true]
      refine h' ?_ _ _ _ _
      have : l.all abbrL = false := by
        rw [Bool.eq_false_iff]; intro h; rw [List.all_eq_true.1 h s hmem] at ha; cases ha
      rw [this]; rfl
    · simp only [Bool.not_true, Bool.false_eq_true, if_false]
      rw [get_had]
      have hall' : (l.take (j + 1)).all abbrL = true := by rw [ht, List.all_append, hall]; simp [ha]
      have e1 : w64 ((j : Int) + 1) = ((j + 1 : Nat) : Int) := by rw [w64_in (by omega) (by omega)]; omega
      have step : ∀ (p' : List UInt8) (hd2 : List (List UInt8 × Int)) (v : V), p'.length + poolN (hd2.map (·.1)) (l.drop (j + 1)) = poolN [] l → k ((S p', (), false, (), NV l, (l.length : Int), ((j + 1 : Nat) : Int), ()), hadM hd2, at' ++ [v], ()) := fun p' hd2 v hq => by
        refine hk _ ⟨j + 1, p', hd2, at' ++ [v], by omega, rfl, hall', hq, by simp [hat]⟩ ?_
        show l.length - ((j + 1 : Nat) : Int).toNat < l.length - ((j : Nat) : Int).toNat
        omega
      rw [poolN] at hp
      cases hf : hd.find? (fun x => x.1 == s) with
      | none =>
        have hc : (hd.map (·.1)).contains s = false := by
          rw [Bool.eq_false_iff]
          intro hc
          rw [List.contains_iff_mem, List.mem_map] at hc
          obtain ⟨y, hy, hys⟩ := hc
          have := List.find?_eq_none.1 hf y hy
          simp [hys] at this
        rw [hc, if_neg (by simp)] at hp
        simp only [Option.map_none, Eng.asMpI, Bool.not_false, if_true, Option.isSome_some]
        have hps : p.length ≤ 100000000 := by omega
        rw [if_neg (by rw [S_size]; omega)]
        have es : S s ++ ByteArray.mk #[(0 : UInt8)] = S (s ++ [0]) := S_append s [0]
        rw [es, S_append, S_size, S_size, if_neg (by simp; omega)]
        simp only [lt]
        rw [if_pos (room8 _ (by simp; omega)), put_had s _ hd hf, e1]
        refine step (p ++ (s ++ [0])) (hd ++ [(s, (p.length : Int))]) _ ?_
        rw [← hp, poolN_congr (l.drop (j + 1)) _ (s :: hd.map (·.1)) fun t => by
          rw [Bool.eq_iff_iff, List.contains_iff_mem, List.contains_iff_mem, List.map_append, List.mem_append, List.mem_cons]
          simp only [List.map_cons, List.map_nil, List.mem_singleton]
          exact ⟨fun h => h.symm, fun h => h.symm⟩]
        simp only [List.length_append, List.length_singleton]
        omega
      | some y =>
        have hy := List.find?_some hf
        have hc : (hd.map (·.1)).contains s = true := by
          rw [List.contains_iff_mem, List.mem_map]
          exact ⟨y, List.mem_of_find?_eq_some hf, by simpa using hy⟩
        rw [hc, if_pos rfl] at hp
        simp only [Option.map_some, Eng.asMpI, if_true, Bool.not_true, Bool.false_eq_true, if_false]
        rw [if_pos (room8 _ (by simp; omega)), e1]
        exact step p hd _ hp
end Go.Proofs.YtbnpclndiichcaaGreatDoor
end
section
set_option linter.unusedVariables false
set_option linter.unusedSimpArgs false
namespace Go.Proofs.YtbnpclndiichcaaGreatDoor
open Go Go.Proofs.YtbnpclndiichcaaGreatDoor.Eng Go.Proofs.YtbnpclndiichcaaGreatDoor.Pl
set_option linter.unusedVariables false
set_option linter.unusedSimpArgs false
set_option maxRecDepth 100000
set_option maxHeartbeats 2000000
/-- A zone as it comes in: whole numbers that go, rows that are not too long. -/
structure ZI (z : Zn) : Prop where
  ty : z.ty.length ≤ 100
  tr : z.tr.length ≤ 2000
  lp : z.lp.length ≤ 300
  ft : z.ft.length ≤ 5000
  nm : ∀ t ∈ z.ty, t.2.2.length ≤ 100
  ri : recI z.lp
  ti : recI z.tr
  v : i64r z.v
theorem tupZ_eq (z : Zn) : tupZ z = (TV z.ty, RV z.tr, RV z.lp, S z.ft, z.v, ()) := rfl
theorem spool (z : Zn) (h : ZI z) {K : ByteArray → Bool → List V → Bool → Bool → Prop}
    (hk : ∀ p at' o y, p.size ≤ 100000000 → ((z.ty.map (·.2.2)).all abbrL && decide (poolN [] (z.ty.map (·.2.2)) ≤ 256)) = true → p.size = poolN [] (z.ty.map (·.2.2)) → K p true at' o y)
    (hk' : ((z.ty.map (·.2.2)).all abbrL && decide (poolN [] (z.ty.map (·.2.2)) ≤ 256)) = false → ∀ p at' o y, K p false at' o y) : Xblock_pool (tupZ z) K := by
  unfold Xblock_pool Yblock_pool
  simp only [tupZ_eq, TV_len]
  refine lp_at (fun j => ((ByteArray.mk #[], (), false, (), TV z.ty, (z.ty.length : Int), (j : Int), ()), NV ((z.ty.map (·.2.2)).take j), ())) z.ty.length rfl fun n hn k hkk => ?_
  unfold Lblock_pool_0
  simp only [decide_eq_true_eq, TV_len]
  by_cases e : n = z.ty.length
  · rw [if_neg (by omega), List.take_of_length_le (by simp; omega)]
    refine sPool _ (by have := h.ty; simp; omega) (fun s hs => ?_) hk hk'
    obtain ⟨t, ht, rfl⟩ := List.mem_map.1 hs
    have := h.nm t ht; omega
  · have hn' : n < z.ty.length := by omega
    have hk' := hkk hn'
    have e1 : w64 ((n : Int) + 1) = ((n + 1 : Nat) : Int) := by have := h.ty; rw [w64_in (by omega) (by omega)]; omega
    rw [Int.toNat_natCast, if_pos (by omega), if_pos (by omega)]
    refine asT1 hn' (asT2 hn' (asT3 hn' ?_))
    rw [if_pos (room16 _ (by rw [NV_len]; have := h.ty; simp; omega)), e1]
    refine (congrArg k ?_).mp hk'
    have : NV ((z.ty.map (·.2.2)).take (n + 1)) = NV ((z.ty.map (·.2.2)).take n) ++ [.c (.string (S (z.ty[n]).2.2))] := by
      rw [List.take_succ_eq_append_getElem (by simpa using hn')]
      simp [NV]
    rw [this]
theorem hwithin (n a b : Int) {K : Bool → Prop} (h : K (nin n a b)) : Xhead_within n a b K := by
  unfold Xhead_within Yhead_within
  unfold nin at h
  simp only [decide_eq_true_eq]
  by_cases h1 : n ≥ a
  · rw [if_pos h1]
    have : decide (a ≤ n ∧ n ≤ b) = decide (n ≤ b) := by simp; intro _; omega
    rw [this] at h; exact h
  · rw [if_neg h1]
    have : decide (a ≤ n ∧ n ≤ b) = false := by simp; omega
    rw [this] at h; exact h
theorem shead (v lp tr ty ch : Int) {K : Bool → Prop} (h : K (nin lp 0 201 && nin tr 0 2000 && nin ty 1 64 && nin ch 1 256 && nin v 1 4)) : Xhead_Right (v, 0, 0, lp, tr, ty, ch, ()) K := by
  unfold Xhead_Right Yhead_Right
  refine hwithin _ _ _ ?_
  cases h1 : nin lp 0 201
  · rw [h1] at h
    simp only [Bool.false_and] at h
    simp only [Bool.false_eq_true, if_false, beq_self_eq_true, if_true]
    exact h
  rw [h1] at h
  rw [if_pos rfl]
  refine hwithin _ _ _ ?_
  cases h2 : nin tr 0 2000
  · rw [h2] at h
    simp only [Bool.false_and, Bool.and_false] at h
    simp only [Bool.false_eq_true, if_false, beq_self_eq_true, if_true]
    exact h
  rw [h2] at h
  rw [if_pos rfl]
  refine hwithin _ _ _ ?_
  cases h3 : nin ty 1 64
  · rw [h3] at h
    simp only [Bool.false_and, Bool.and_false] at h
    simp only [Bool.false_eq_true, if_false, beq_self_eq_true, if_true]
    exact h
  rw [h3] at h
  rw [if_pos rfl]
  refine hwithin _ _ _ ?_
  simp only [beq_self_eq_true, if_true]
  cases h4 : nin ch 1 256
  · rw [h4] at h
    simp only [Bool.false_and, Bool.and_false] at h
    simp only [Bool.false_eq_true, if_false]
    exact h
  rw [h4] at h
  rw [if_pos rfl]
  refine hwithin _ _ _ ?_
  simpa using h
theorem scount (z : Zn) (h : ZI z) {K : Int × Int × Int × Int × Int × Int × Int × Unit → Bool → Prop} (hk : ∀ r, K r (countOk z)) : Xblock_Count (tupZ z) K := by
  unfold Xblock_Count Yblock_Count
  have hk1 : ∀ r b, b = countOk z → K r b := fun r b e => e ▸ hk r
  refine spool z h (fun p at' o y hp hok hsz => ?_) fun hbad p at' o y => ?_
  · rw [if_neg (by simp)]
    simp only [tupZ_eq, TV_len, RV_len, hsz]
    refine shead _ _ _ _ _ ?_
    have e : countOk z = (nin z.lp.length 0 201 && nin z.tr.length 0 2000 && nin z.ty.length 1 64 && nin (poolN [] (z.ty.map (·.2.2)) : Nat) 1 256 && nin z.v 1 4) := by
      unfold countOk
      rw [hok, Bool.true_and]
    cases hb : (nin z.lp.length 0 201 && nin z.tr.length 0 2000 && nin z.ty.length 1 64 && nin (poolN [] (z.ty.map (·.2.2)) : Nat) 1 256 && nin z.v 1 4)
    · rw [if_pos (show (!false) = true from rfl)]; exact hk1 _ _ (by rw [e, hb])
    · rw [if_neg (by simp)]; exact hk1 _ _ (by rw [e, hb])
  · rw [if_pos (show (!false) = true from rfl)]
    refine hk1 _ _ ?_
    unfold countOk
    rw [hbad]; simp
theorem sallT (l : List Ty) (hl : l.length ≤ 100000) {K : Bool → Prop} (h : K (l.all (fun t => decide (-89999 ≤ t.1 ∧ t.1 ≤ 93599)))) : Xzone_all_api_Type_ (TV l) K := by
  unfold Xzone_all_api_Type_ Yzone_all_api_Type_
  rw [TV_len]
  refine lp_ind (fun x => l.length - x.1.2.2.2.2.1.toNat) (fun x => ∃ j : Nat, j ≤ l.length ∧ x = ((((), ()), false, TV l, (l.length : Int), (j : Int), ()), ()) ∧ (l.take j).all (fun t => decide (-89999 ≤ t.1 ∧ t.1 ≤ 93599)) = true) ?_ ⟨0, by omega, rfl, rfl⟩
  rintro x ⟨j, hj, rfl, hall⟩ k hk
  unfold Lzone_all_api_Type__0
  simp only [decide_eq_true_eq, TV_len]
  by_cases e : j = l.length
  · rw [if_neg (by omega)]
    rw [e, List.take_length] at hall
    rw [hall] at h; exact h
  · have hj' : j < l.length := by omega
    rw [Int.toNat_natCast, if_pos (by omega), if_pos (by omega)]
    refine asT1 hj' (asT2 hj' (asT3 hj' ?_))
    have ht : l.take (j + 1) = l.take j ++ [l[j]] := List.take_succ_eq_append_getElem hj'
    have hmem := List.getElem_mem hj'
    generalize l[j] = t at *
    have e1 : w64 ((j : Int) + 1) = ((j + 1 : Nat) : Int) := by rw [w64_in (by omega) (by omega)]; omega
    unfold Xzone_Right_1 Yzone_Right_1
    simp only [decide_eq_true_eq, e1]
    have bad : ¬ (-89999 ≤ t.1 ∧ t.1 ≤ 93599) → K false := fun hn => by
      have : l.all (fun t => decide (-89999 ≤ t.1 ∧ t.1 ≤ 93599)) = false := by
        rw [Bool.eq_false_iff]; intro hh; exact hn (by simpa using List.all_eq_true.1 hh t hmem)
      rw [this] at h; exact h
    by_cases h1 : t.1 ≥ -89999
    · rw [if_pos h1]
      by_cases h2 : t.1 ≤ 93599
      · rw [if_neg (by simpa using h2)]
        refine hk _ ⟨j + 1, by omega, rfl, ?_⟩ ?_
        · rw [ht, List.all_append, hall]; simp; exact ⟨h1, h2⟩
        · show l.length - ((j + 1 : Nat) : Int).toNat < l.length - ((j : Nat) : Int).toNat
          omega
      · rw [if_pos (by simpa using h2)]; exact bad (by omega)
    · rw [if_neg h1, if_pos (by simp)]; exact bad (by omega)
end Go.Proofs.YtbnpclndiichcaaGreatDoor
end
section
set_option linter.unusedVariables false
set_option linter.unusedSimpArgs false
namespace Go.Proofs.YtbnpclndiichcaaGreatDoor
open Go Go.Proofs.YtbnpclndiichcaaGreatDoor.Eng Go.Proofs.YtbnpclndiichcaaGreatDoor.Pl
set_option linter.unusedVariables false
set_option linter.unusedSimpArgs false
theorem kind_iff {o : Int} {d : Bool} {l : List UInt8} {w : Bool} : kindR o d l w = true ↔ abbrL l = true ∧ d = w ∧ -89999 ≤ o ∧ o ≤ 89999 := by
  unfold kindR; simp [and_assoc]
theorem sruleAtR (r : Ru) (y : Int) {K} (h : if (1 ≤ y ∧ y ≤ 9999) ∧ r.ok = true then K (r.at y) true else K 0 false) : Xrule_At (tupRu r) y K := by
  refine sruleAt _ _ _ _ _ _ ?_
  by_cases e : (1 ≤ y ∧ y ≤ 9999) ∧ rightR r.k r.a r.b r.c r.x = true
  · have e' : (1 ≤ y ∧ y ≤ 9999) ∧ r.ok = true := e
    rw [if_pos e'] at h
    rw [if_pos e, decide_eq_true e]; exact h
  · have e' : ¬ ((1 ≤ y ∧ y ≤ 9999) ∧ r.ok = true) := e
    rw [if_neg e'] at h
    rw [if_neg e, decide_eq_false e]; exact h
theorem sfootSpan (f : Ft) (y : Int) {K} (h : if f.spans y then K (f.from' y) (f.to' y) true else K 0 0 false) : Xfoot_Span (tupFt f) y K := by
  unfold Xfoot_Span Yfoot_Span
  by_cases eh : f.has = true
  · refine ifF (by simp [eh]) (sfootRight f ?_)
    by_cases e : f.ok = true
    · refine ifF (by simp [e]) (sruleAtR f.fr y ?_)
      have e' := e
      unfold Ft.ok at e'
      rw [if_pos eh, Bool.and_eq_true, Bool.and_eq_true, Bool.and_eq_true] at e'
      obtain ⟨e0, ⟨e1, e2⟩, e3⟩ := e'
      obtain ⟨k1, k2, k3, k4⟩ := kind_iff.1 e0
      obtain ⟨j1, j2, j3, j4⟩ := kind_iff.1 e1
      have r1 := (right_iff _ _ _ _ _).1 e2
      have r2 := (right_iff _ _ _ _ _).1 e3
      by_cases ey : 1 ≤ y ∧ y ≤ 9999
      · have hsp : f.spans y := ⟨eh, e, ey.1, ey.2⟩
        rw [if_pos hsp] at h
        have d1 := ruleDay_bd ey e2
        have d2 := ruleDay_bd ey e3
        have hf := fst_bd ey.1 ey.2
        have hf2 := fst_succ y
        refine ifT ⟨ey, e2⟩ (ifF (by simp) (sruleAtR f.to y (ifT ⟨ey, e3⟩ ?_)))
        unfold Ft.from' Ft.to' at h
        show K (w64 (f.fr.at y - f.so)) (w64 (f.to.at y - f.wo)) true
        unfold Ru.at at h ⊢
        rw [w64_in (by omega) (by omega), w64_in (by omega) (by omega)]
        exact h
      · rw [if_neg (fun h => ey ⟨h.2.2.1, h.2.2.2⟩)] at h
        exact ifF (fun h => ey h.1) (ifT rfl h)
    · rw [if_neg (fun h => e h.2.1)] at h
      exact ifT (by simpa using e) h
  · rw [if_neg (fun h => eh h.1)] at h
    exact ifT (by simpa using eh) h
theorem syear (n : Int) (h0 : -9223372036854775808 ≤ n) (h1 : n ≤ 9223372036854775807) {K} (h : if inDays n then K (yearP (n / 86400)) true else K 0 false) : Xfoot_year n K := by
  rw [Xfoot_year, Yfoot_year]
  refine sdiv _ _ h0 h1 (by omega) (by omega) (sday _ ?_)
  by_cases e : inDays n
  · rw [if_pos e] at h
    exact ifT e h
  · rw [if_neg e] at h
    exact ifF e h
theorem sfootLookup (f : Ft) (p : Int) (hp : -9223372036854775808 ≤ p ∧ p ≤ 9223372036854775807) (ho : -9223372036854775808 ≤ f.so ∧ f.so ≤ 9223372036854775807) {K} (h : if f.sum p then K (f.wo, f.wd, S f.wa, ()) else K (f.so, f.sd, S f.sa, ())) : Xfoot_Lookup (tupFt f) p K := by
  unfold Xfoot_Lookup Yfoot_Lookup
  refine sadd _ _ hp ho ?_
  have std : ¬ f.sum p → K (f.so, f.sd, S f.sa, ()) := fun hn => by rw [if_neg hn] at h; exact h
  have dst : f.sum p → K (f.wo, f.wd, S f.wa, ()) := fun hn => by rw [if_pos hn] at h; exact h
  by_cases e : -9223372036854775808 ≤ p + f.so ∧ p + f.so ≤ 9223372036854775807
  · refine ifT e (syear _ e.1 e.2 ?_)
    by_cases ed : inDays (p + f.so)
    · refine ifT ed (sfootSpan f _ ?_)
      by_cases es : f.spans (yearP ((p + f.so) / 86400))
      · refine ifT es (ifF (by simp) (ifF (by simp) (ifF (by simp) ?_)))
        have hs : f.sum p ↔ ((f.from' (yearP ((p + f.so) / 86400)) ≤ p ∧ p < f.to' (yearP ((p + f.so) / 86400))) ∨ (f.to' (yearP ((p + f.so) / 86400)) ≤ f.from' (yearP ((p + f.so) / 86400)) ∧ (f.from' (yearP ((p + f.so) / 86400)) ≤ p ∨ p < f.to' (yearP ((p + f.so) / 86400))))) :=
          ⟨fun h => h.2.2, fun h => ⟨ed, es, h⟩⟩
        simp only [decide_eq_true_eq, ge_iff_le]
        generalize f.from' (yearP ((p + f.so) / 86400)) = a at *
        generalize f.to' (yearP ((p + f.so) / 86400)) = b at *
        refine ifC (fun h1 => ifC (fun h2 => dst (hs.2 (by omega))) fun h2 => ifC (fun h3 => ifC (fun h4 => dst (hs.2 (by omega))) fun h4 => absurd h1 h4) fun h3 => std (fun h => by have := hs.1 h; omega))
          fun h1 => ifC (fun h3 => ifC (fun h4 => absurd h4 h1) fun h4 => ifC (fun h5 => dst (hs.2 (by omega))) fun h5 => std (fun h => by have := hs.1 h; omega)) fun h3 => std (fun h => by have := hs.1 h; omega)
      · exact ifF es (ifF (by simp) (ifF (by simp) (ifT (by simp) (std fun h => es h.2.1))))
    · refine ifF ed (sfootSpan f _ ?_)
      have : ¬ f.spans 0 := fun h => by have := h.2.2.1; omega
      exact ifF this (ifF (by simp) (ifT (by simp) (std fun h => ed h.1)))
  · refine ifF e (syear 0 (by omega) (by omega) ?_)
    have h0 : inDays 0 := by unfold inDays; omega
    refine ifT h0 (sfootSpan f _ ?_)
    have out : ¬ f.sum p := fun h => e (by have := h.1; unfold inDays at this; omega)
    refine ifC (fun _ => ifT (by simp) (std out)) fun _ => ifT (by simp) (std out)
end Go.Proofs.YtbnpclndiichcaaGreatDoor
end
section
set_option linter.unusedVariables false
set_option linter.unusedSimpArgs false
namespace Go.Proofs.YtbnpclndiichcaaGreatDoor
open Go Go.Proofs.YtbnpclndiichcaaGreatDoor.Eng Go.Proofs.YtbnpclndiichcaaGreatDoor.Pl
set_option linter.unusedVariables false
set_option linter.unusedSimpArgs false
def i64 (n : Int) : Prop := -9223372036854775808 ≤ n ∧ n ≤ 9223372036854775807
theorem ok_so {f : Ft} (h : f.ok = true) : -89999 ≤ f.so ∧ f.so ≤ 89999 ∧ f.sd = false ∧ abbrL f.sa = true := by
  unfold Ft.ok at h
  rw [Bool.and_eq_true] at h
  obtain ⟨k1, k2, k3, k4⟩ := kind_all.1 h.1
  exact ⟨k3, k4, k2, k1⟩
theorem not_true (b : Bool) : ((!b) = true) = ¬ (b = true) := by cases b <;> simp
end Go.Proofs.YtbnpclndiichcaaGreatDoor
end
section
set_option linter.unusedVariables false
set_option linter.unusedSimpArgs false
namespace Go.Proofs.YtbnpclndiichcaaGreatDoor
open Go Go.Proofs.YtbnpclndiichcaaGreatDoor.Eng Go.Proofs.YtbnpclndiichcaaGreatDoor.Pl
set_option linter.unusedVariables false
set_option linter.unusedSimpArgs false
set_option maxRecDepth 100000
set_option maxHeartbeats 2000000
/-- Sorted by when. -/
def Srt (l : List Rec) : Prop := ∀ (s t : Nat) (hs : s < l.length) (ht : t < l.length), s ≤ t → (l[s]).1 ≤ (l[t]).1
theorem half {i j : Nat} (h : i + j ≤ 1000000) : w64 (Int.fdiv (wu64 (w64 ((i : Int) + (j : Int)))) 2) = (((i + j) / 2 : Nat) : Int) := by
  have e1 : w64 ((i : Int) + (j : Int)) = (i : Int) + (j : Int) := w64_in (by omega) (by omega)
  have e2 : wu64 ((i : Int) + (j : Int)) = (i : Int) + (j : Int) := by
    simp only [wu64, IntKind.wrap, IntKind.bits, IntKind.signed]
    try simp
    try omega
  rw [e1, e2, Int.fdiv_eq_ediv_of_nonneg _ (by omega), w64_in (by omega) (by omega)]
  omega
/-- Halving: what a search keeps. -/
def Bin (q : Rec → Bool) (l : List Rec) (i j : Nat) : Prop := i ≤ j ∧ j ≤ l.length ∧ (∀ t (ht : t < l.length), t < i → q l[t] = false) ∧ (∀ t (ht : t < l.length), j ≤ t → q l[t] = true)
def Mono (q : Rec → Bool) (l : List Rec) : Prop := ∀ (s t : Nat) (hs : s < l.length) (ht : t < l.length), s ≤ t → q l[s] = true → q l[t] = true
theorem Bin.low {q : Rec → Bool} {l : List Rec} {i j h : Nat} (hb : Bin q l i j) (hm : Mono q l) (h1 : i ≤ h) (h2 : h < j) (hl : h < l.length) (hq : q l[h] = false) : Bin q l (h + 1) j := by
  obtain ⟨b1, b2, b3, b4⟩ := hb
  refine ⟨by omega, b2, fun t ht hlt => ?_, b4⟩
  cases e : q l[t]
  · rfl
  · rw [hm t h ht hl (by omega) e] at hq; cases hq
theorem Bin.high {q : Rec → Bool} {l : List Rec} {i j h : Nat} (hb : Bin q l i j) (hm : Mono q l) (h1 : i ≤ h) (h2 : h < j) (hl : h < l.length) (hq : q l[h] = true) : Bin q l i h := by
  obtain ⟨b1, b2, b3, b4⟩ := hb
  exact ⟨by omega, by omega, b3, fun t ht hlt => hm h t hl ht hlt hq⟩
theorem Bin.fl {q : Rec → Bool} {l : List Rec} {i : Nat} (hb : Bin q l i i) : Pl.fl q l = i := by
  obtain ⟨b1, b2, b3, b4⟩ := hb
  exact fl_of q l i b2 b3 fun h => b4 i h (Nat.le_refl _)
theorem gt_mono {l : List Rec} (h : Srt l) (a : Int) : Mono (fun c => decide (c.1 > a)) l := fun s t hs ht hst hq => by
  have := h s t hs ht hst
  simp only [decide_eq_true_eq] at *
  omega
theorem sSearchZ (tr : List Rec) (hs : Srt tr) (hl : tr.length ≤ 100000) (ty lp : List V) (ft : ByteArray) (v a : Int) {K} (h : K (Pl.fl (fun c : Rec => decide (c.1 > a)) tr : Int) ft v a ty false true (RV tr) false true lp false true) :
    Xsort_Search (tr.length : Int) ty (RV tr) lp ft v a K := by
  unfold Xsort_Search Ysort_Search
  refine lp_ind (fun x => (x.1.2.2.2.1 - x.1.2.2.1).toNat) (fun x => ∃ i j : Nat, Bin (fun c : Rec => decide (c.1 > a)) tr i j ∧ x = ((((), (), (), ()), (0 : Int), (i : Int), (j : Int), ()), (ty, RV tr, lp, ft, v, ()), (a, ()), ())) ?_ ⟨0, tr.length, ⟨by omega, by omega, fun t ht h => by omega, fun t ht h => by omega⟩, rfl⟩
  rintro x ⟨i, j, hb, rfl⟩ k hk
  obtain ⟨b1, b2, _, _⟩ := id hb
  unfold Lsort_Search_0
  simp only [decide_eq_true_eq]
  by_cases e : i = j
  · subst e
    rw [if_neg (by omega)]
    rw [hb.fl] at h; exact h
  · rw [if_pos (by omega)]
    simp only [lt]
    rw [half (by omega)]
    have hlt : (i + j) / 2 < tr.length := by omega
    unfold Xzone_Index_1 Yzone_Index_1
    rw [RV_len, if_pos (by omega), Int.toNat_natCast]
    refine asR1 hlt ?_
    dsimp only
    have e1 : w64 ((((i + j) / 2 : Nat) : Int) + 1) = (((i + j) / 2 + 1 : Nat) : Int) := by rw [w64_in (by omega) (by omega)]; omega
    cases hq : decide ((tr[(i + j) / 2]).1 > a)
    · rw [if_pos (show (!false) = true from rfl), e1]
      refine hk _ ⟨(i + j) / 2 + 1, j, hb.low (gt_mono hs a) (by omega) (by omega) hlt hq, rfl⟩ ?_
      show ((j : Int) - (((i + j) / 2 + 1 : Nat) : Int)).toNat < ((j : Int) - (i : Int)).toNat
      omega
    · rw [if_neg (by simp)]
      refine hk _ ⟨i, (i + j) / 2, hb.high (gt_mono hs a) (by omega) (by omega) hlt hq, rfl⟩ ?_
      show ((((i + j) / 2 : Nat) : Int) - (i : Int)).toNat < ((j : Int) - (i : Int)).toNat
      omega
theorem zIndex (z : Zn) (hz : ZI z) (hs : Srt z.tr) (a : Int) {K : Int → Prop} (h : K ((indexN z a : Int) - 1)) : Xzone_Index (tupZ z) a K := by
  unfold Xzone_Index Yzone_Index
  simp only [tupZ_eq, RV_len]
  refine sSearchZ z.tr hs (by have := hz.tr; omega) _ _ _ _ _ ?_
  have h1 := fl_le (fun c : Rec => decide (c.1 > a)) z.tr
  have h2 := hz.tr
  rw [w64_in (by omega) (by omega)]
  exact h
theorem sSearchS (l : List Rec) (hs : Srt l) (hl : l.length ≤ 100000) (o f : Bool) (a : Int) {K} (h : ∀ o f, K (Pl.fl (fun c : Rec => decide (c.1 > a)) l : Int) a (RV l) o f) : Xsort_Search_1 (l.length : Int) a (RV l) o f K := by
  unfold Xsort_Search_1 Ysort_Search_1
  refine lp_ind (fun x => (x.1.2.2.2.1 - x.1.2.2.1).toNat) (fun x => ∃ (i j : Nat) (y : List V × Bool × Bool), Bin (fun c : Rec => decide (c.1 > a)) l i j ∧ x = ((((), (), (), ()), (0 : Int), (i : Int), (j : Int), ()), (RV l, ()), (a, ()), y, ())) ?_ ⟨0, l.length, _, ⟨by omega, by omega, fun t ht h => by omega, fun t ht h => by omega⟩, rfl⟩
  rintro x ⟨i, j, y, hb, rfl⟩ k hk
  obtain ⟨b1, b2, _, _⟩ := id hb
  unfold Lsort_Search_1_0
  simp only [decide_eq_true_eq]
  by_cases e : i = j
  · subst e
    rw [if_neg (by omega)]
    have := h false true
    rw [hb.fl] at this; exact this
  · rw [if_pos (by omega)]
    simp only [lt]
    rw [half (by omega)]
    have hlt : (i + j) / 2 < l.length := by omega
    unfold Xrecord_Sum_1_1 Yrecord_Sum_1_1
    rw [RV_len, if_pos (by omega), Int.toNat_natCast]
    refine asR1 hlt ?_
    dsimp only
    have e1 : w64 ((((i + j) / 2 : Nat) : Int) + 1) = (((i + j) / 2 + 1 : Nat) : Int) := by rw [w64_in (by omega) (by omega)]; omega
    cases hq : decide ((l[(i + j) / 2]).1 > a)
    · rw [if_pos (show (!false) = true from rfl), e1]
      refine hk _ ⟨(i + j) / 2 + 1, j, _, hb.low (gt_mono hs a) (by omega) (by omega) hlt hq, rfl⟩ ?_
      show ((j : Int) - (((i + j) / 2 + 1 : Nat) : Int)).toNat < ((j : Int) - (i : Int)).toNat
      omega
    · rw [if_neg (by simp)]
      refine hk _ ⟨i, (i + j) / 2, _, hb.high (gt_mono hs a) (by omega) (by omega) hlt hq, rfl⟩ ?_
      show ((((i + j) / 2 : Nat) : Int) - (i : Int)).toNat < ((j : Int) - (i : Int)).toNat
      omega
theorem sSum (l : List Rec) (hs : Srt (leapsR l)) (hl : l.length ≤ 100000) (a : Int) {K : Int → Prop} (h : K (sumR l a)) : Xrecord_Sum (RV l) a K := by
  unfold Xrecord_Sum Yrecord_Sum
  refine sLeaps l hl ?_
  rw [RV_len]
  have hl2 : (leapsR l).length ≤ 100000 := by rw [leapsR_len]; split <;> omega
  refine sSearchS (leapsR l) hs hl2 _ _ _ fun o f => ?_
  unfold sumR at h
  have h1 := fl_le (fun c : Rec => decide (c.1 > a)) (leapsR l)
  generalize Pl.fl (fun c : Rec => decide (c.1 > a)) (leapsR l) = m at *
  simp only [beq_iff_eq]
  by_cases e : m = 0
  · subst e
    rw [if_pos (show ((0 : Nat) : Int) = 0 from rfl)]
    exact h
  · rw [if_neg (by omega)]
    have e1 : w64 ((m : Int) - 1) = ((m - 1 : Nat) : Int) := by rw [w64_in (by omega) (by omega)]; omega
    rw [e1, RV_len, if_pos (by omega), Int.toNat_natCast]
    refine asR2 (by omega) ?_
    have : ((leapsR l).take m).getLast? = some ((leapsR l)[m - 1]'(by omega)) := by
      rw [List.getLast?_eq_getElem?, List.length_take, Nat.min_eq_left h1, List.getElem?_take, if_pos (by omega), List.getElem?_eq_getElem (by omega)]
    rw [this] at h
    exact h
end Go.Proofs.YtbnpclndiichcaaGreatDoor
end
