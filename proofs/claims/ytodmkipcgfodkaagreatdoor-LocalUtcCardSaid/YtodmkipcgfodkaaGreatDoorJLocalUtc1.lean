/- What the functions come to in plain data, with proofs, and what that answers. -/
import Derived.Test.YtodmkipcgfodkaaGreatDoorJLocalUtc0
import Derived.Lib.Strings
import Derived.Lib.Atoi
import Derived.Laws.Concat
import Derived.Laws.RangeAny
import Derived.Lib.Bytealg
import Derived.Lib.Join
section
set_option linter.unusedVariables false
set_option linter.unusedSimpArgs false
namespace Go.Proofs.YtodmkipcgfodkaaGreatDoor
open Go Go.Proofs.YtodmkipcgfodkaaGreatDoor.Eng
set_option linter.unusedVariables false
set_option maxRecDepth 100000
set_option maxHeartbeats 4000000
variable {G : Gs}
abbrev Tfoot_Lookup : Type := Q47 → Int → (Q32 → Prop) → Prop
def Yfoot_Lookup (xnum_Add : Tnum_Add) (xfoot_year : Tfoot_year) (xfoot_Span : Tfoot_Span) (a0 : Q47) (a1 : Int) (K : Q32 → Prop) : Prop :=
 xnum_Add a1 a0.1 (fun r2 r3 =>
 xfoot_year r2 (fun r4 r5 =>
 xfoot_Span a0 r4 (fun r6 r7 r8 =>
 (if (!r3) then
 K (a0.1, a0.2.1, a0.2.2.1, ())
 else
 (if (!r5) then
 K (a0.1, a0.2.1, a0.2.2.1, ())
 else
 (if (!r8) then
 K (a0.1, a0.2.1, a0.2.2.1, ())
 else
 (if decide (a1 ≥ r6) then
 (if decide (a1 < r7) then
 K (a0.2.2.2.1, a0.2.2.2.2.1, a0.2.2.2.2.2.1, ())
 else
 (if decide (r6 ≥ r7) then
 (if decide (a1 ≥ r6) then
 K (a0.2.2.2.1, a0.2.2.2.2.1, a0.2.2.2.2.2.1, ())
 else
 (if decide (a1 < r7) then
 K (a0.2.2.2.1, a0.2.2.2.2.1, a0.2.2.2.2.2.1, ())
 else
 K (a0.1, a0.2.1, a0.2.2.1, ())))
 else
 K (a0.1, a0.2.1, a0.2.2.1, ())))
 else
 (if decide (r6 ≥ r7) then
 (if decide (a1 ≥ r6) then
 K (a0.2.2.2.1, a0.2.2.2.2.1, a0.2.2.2.2.2.1, ())
 else
 (if decide (a1 < r7) then
 K (a0.2.2.2.1, a0.2.2.2.2.1, a0.2.2.2.2.2.1, ())
 else
 K (a0.1, a0.2.1, a0.2.2.1, ())))
 else
 K (a0.1, a0.2.1, a0.2.2.1, ())))))))))
def Xfoot_Lookup : Tfoot_Lookup := Yfoot_Lookup Xnum_Add Xfoot_year Xfoot_Span
def Jfoot_Lookup (X : Tfoot_Lookup) : Inst := mkI 113 pL83 .nil pL84 .nil X
def Ifoot_Lookup : Inst := Jfoot_Lookup Xfoot_Lookup
theorem Efoot_Lookup (xnum_Add : Tnum_Add) (xfoot_year : Tfoot_year) (xfoot_Span : Tfoot_Span) : EqF Tryz.prog 71 gives Tryz.f113 [Jnum_Add xnum_Add, Jfoot_year xfoot_year, Jfoot_Span xfoot_Span] [] (Jfoot_Lookup (Yfoot_Lookup xnum_Add xfoot_year xfoot_Span)) := fun x y K => by kernel_rfl
theorem Ifoot_Lookup_ok : InstOk Tryz.prog G.1 Ifoot_Lookup := iok (gives := gives) [] (okCons Inum_Add_ok (okCons Ifoot_year_ok (okCons Ifoot_Span_ok okNil))) 71 follows Tryz.func113 (by kernel_rfl) (fun x => by kernel_rfl) (Efoot_Lookup Xnum_Add Xfoot_year Xfoot_Span)
abbrev Tzone_Lookup : Type := Q15 → Int → (Q32 → Prop) → Prop
def Yzone_Lookup (xzone_Index : Tzone_Index) (xfoot_Parse : Tfoot_Parse) (xzone_Posix : Tzone_Posix) (xfoot_Lookup : Tfoot_Lookup) (a0 : Q15) (a1 : Int) (K : Q32 → Prop) : Prop :=
 xzone_Index a0 a1 (fun r2 =>
 (if (!ByteArray.toList a0.2.2.2.1 == ByteArray.toList (ByteArray.mk #[])) then
 (if (w64 (r2 + 1) == (↑(List.length a0.2.1) : Int)) then
 xfoot_Parse a0.2.2.2.1 (fun r3 r4 =>
 xzone_Posix a0 a1 (fun r5 =>
 xfoot_Lookup r3 r5 (fun r6 =>
 K r6)))
 else
 (if decide (r2 < 0) then
 (if (0 :Int) ≤ 0 ∧ 0 < (↑(List.length a0.1) : Int) then
 (Eng.asInt IntKind.i64 (Eng.getC a0.1 (0 : Nat) (0 : Nat)) False fun n7 =>
 (Eng.asBool (Eng.getC a0.1 (0 : Nat) (1 : Nat)) False fun b8 =>
 (Eng.asStr (Eng.getC a0.1 (0 : Nat) (2 : Nat)) False fun t9 =>
 K (n7, b8, t9, ()))))
 else
 False)
 else
 (if 0 ≤ r2 ∧ r2 < (↑(List.length a0.2.1) : Int) then
 (Eng.asInt IntKind.i64 (Eng.getC a0.2.1 (Int.toNat r2) (1 : Nat)) False fun n10 =>
 (if 0 ≤ n10 ∧ n10 < (↑(List.length a0.1) : Int) then
 (Eng.asInt IntKind.i64 (Eng.getC a0.1 (Int.toNat n10) (0 : Nat)) False fun n11 =>
 (Eng.asBool (Eng.getC a0.1 (Int.toNat n10) (1 : Nat)) False fun b12 =>
 (Eng.asStr (Eng.getC a0.1 (Int.toNat n10) (2 : Nat)) False fun t13 =>
 K (n11, b12, t13, ()))))
 else
 False))
 else
 False)))
 else
 (if decide (r2 < 0) then
 (if (0 :Int) ≤ 0 ∧ 0 < (↑(List.length a0.1) : Int) then
 (Eng.asInt IntKind.i64 (Eng.getC a0.1 (0 : Nat) (0 : Nat)) False fun n14 =>
 (Eng.asBool (Eng.getC a0.1 (0 : Nat) (1 : Nat)) False fun b15 =>
 (Eng.asStr (Eng.getC a0.1 (0 : Nat) (2 : Nat)) False fun t16 =>
 K (n14, b15, t16, ()))))
 else
 False)
 else
 (if 0 ≤ r2 ∧ r2 < (↑(List.length a0.2.1) : Int) then
 (Eng.asInt IntKind.i64 (Eng.getC a0.2.1 (Int.toNat r2) (1 : Nat)) False fun n17 =>
 (if 0 ≤ n17 ∧ n17 < (↑(List.length a0.1) : Int) then
 (Eng.asInt IntKind.i64 (Eng.getC a0.1 (Int.toNat n17) (0 : Nat)) False fun n18 =>
 (Eng.asBool (Eng.getC a0.1 (Int.toNat n17) (1 : Nat)) False fun b19 =>
 (Eng.asStr (Eng.getC a0.1 (Int.toNat n17) (2 : Nat)) False fun t20 =>
 K (n18, b19, t20, ()))))
 else
 False))
 else
 False))))
def Xzone_Lookup : Tzone_Lookup := Yzone_Lookup Xzone_Index Xfoot_Parse Xzone_Posix Xfoot_Lookup
def Jzone_Lookup (X : Tzone_Lookup) : Inst := mkI 45 pL72 .nil pL84 .nil X
def Izone_Lookup : Inst := Jzone_Lookup Xzone_Lookup
theorem Ezone_Lookup (xzone_Index : Tzone_Index) (xfoot_Parse : Tfoot_Parse) (xzone_Posix : Tzone_Posix) (xfoot_Lookup : Tfoot_Lookup) : EqF Tryz.prog 51 gives Tryz.f45 [Jzone_Index xzone_Index, Jfoot_Parse xfoot_Parse, Jzone_Posix xzone_Posix, Jfoot_Lookup xfoot_Lookup] [] (Jzone_Lookup (Yzone_Lookup xzone_Index xfoot_Parse xzone_Posix xfoot_Lookup)) := fun x y K => by kernel_rfl
theorem Izone_Lookup_ok : InstOk Tryz.prog G.1 Izone_Lookup := iok (gives := gives) [] (okCons Izone_Index_ok (okCons Ifoot_Parse_ok (okCons Izone_Posix_ok (okCons Ifoot_Lookup_ok okNil)))) 51 follows Tryz.func45 (by kernel_rfl) (fun x => by kernel_rfl) (Ezone_Lookup Xzone_Index Xfoot_Parse Xzone_Posix Xfoot_Lookup)
abbrev Trecord_Step_1_1 : Type := Int → (List Eng.V) → Int → (Bool → Int → (List Eng.V) → Bool → Bool → Prop) → Prop
def Yrecord_Step_1_1 (a0 : Int) (a1 : (List Eng.V)) (a2 : Int) (K : Bool → Int → (List Eng.V) → Bool → Bool → Prop) : Prop :=
 (if 0 ≤ a0 ∧ a0 < (↑(List.length a1) : Int) then
 (Eng.asInt IntKind.i64 (Eng.getC a1 (Int.toNat a0) (0 : Nat)) False fun n3 =>
 K (decide (n3 ≥ a2)) a2 a1 false true)
 else
 False)
def Xrecord_Step_1_1 : Trecord_Step_1_1 := Yrecord_Step_1_1
def Jrecord_Step_1_1 (X : Trecord_Step_1_1) : Inst := mkI 165 pL66 pH74 pL1 pH73 X
def Irecord_Step_1_1 : Inst := Jrecord_Step_1_1 Xrecord_Step_1_1
theorem Erecord_Step_1_1 : EqF Tryz.prog 12 gives Tryz.f165 [] [] (Jrecord_Step_1_1 (Yrecord_Step_1_1)) := fun x y K => by kernel_rfl
theorem Irecord_Step_1_1_ok : InstOk Tryz.prog G.1 Irecord_Step_1_1 := iok (gives := gives) [] okNil 12 follows Tryz.func165 (by kernel_rfl) (fun x => by kernel_rfl) (Erecord_Step_1_1)
abbrev Tsort_Search_2 : Type := Int → Int → (List Eng.V) → Bool → Bool → (Int → Int → (List Eng.V) → Bool → Bool → Prop) → Prop
def Lsort_Search_2_0 (xrecord_Step_1_1 : Trecord_Step_1_1) (K : Int → Int → (List Eng.V) → Bool → Bool → Prop) (a1 : Int) (a2 : (List Eng.V)) (a3 : Bool) (a4 : Bool) : (Q75 → Prop) → Q75 → Prop := fun k5 x6 =>
 (if decide (x6.1.2.2.1 < x6.1.2.2.2.1) then
 (lt (Int.fdiv (wu64 (w64 (x6.1.2.2.1 + x6.1.2.2.2.1))) 2) fun v7 =>
 xrecord_Step_1_1 (w64 v7) x6.2.1.1 x6.2.2.1.1 (fun r8 r9 r10 r11 r12 =>
 (if (!r8) then
 k5 ((((), (), (), ()), x6.1.2.1, w64 (w64 v7 + 1), x6.1.2.2.2), (r10, ()), (r9, ()), (x6.2.2.2.1.1, x6.2.2.2.1.2.1, true), ())
 else
 k5 ((((), (), (), ()), x6.1.2.1, x6.1.2.2.1, w64 v7, ()), (r10, ()), (r9, ()), (x6.2.2.2.1.1, x6.2.2.2.1.2.1, true), ()))))
 else
 K x6.1.2.2.1 x6.2.2.1.1 x6.2.1.1 false true)
def Lsort_Search_2_0p : Lp := ⟨114, [.trim 114, .thin 2, .trim 114, .thin 384, .trim 114], pT85, pH77, 0⟩
def Ysort_Search_2 (xrecord_Step_1_1 : Trecord_Step_1_1) (a0 : Int) (a1 : Int) (a2 : (List Eng.V)) (a3 : Bool) (a4 : Bool) (K : Int → Int → (List Eng.V) → Bool → Bool → Prop) : Prop :=
 lp (Lsort_Search_2_0 xrecord_Step_1_1 K a1 a2 a3 a4) ((((), (), (), ()), 0, 0, a0, ()), (a2, ()), (a1, ()), (a2, a3, true), ())
def Xsort_Search_2 : Tsort_Search_2 := Ysort_Search_2 Xrecord_Step_1_1
def Jsort_Search_2 (X : Tsort_Search_2) : Inst := mkI 137 pL86 pH73 pL6 pH73 X
def Isort_Search_2 : Inst := Jsort_Search_2 Xsort_Search_2
theorem Esort_Search_2 (xrecord_Step_1_1 : Trecord_Step_1_1) : EqF Tryz.prog 26 gives Tryz.f137 [Jrecord_Step_1_1 xrecord_Step_1_1] [Lsort_Search_2_0p] (Jsort_Search_2 (Ysort_Search_2 xrecord_Step_1_1)) := fun x y K => by kernel_rfl
theorem Isort_Search_2_ok : InstOk Tryz.prog G.1 Isort_Search_2 := iok (gives := gives) [Lsort_Search_2_0p] (okCons Irecord_Step_1_1_ok okNil) 26 follows Tryz.func137 (by kernel_rfl) (fun x => by kernel_rfl) (Esort_Search_2 Xrecord_Step_1_1)
abbrev Trecord_Step : Type := (List Eng.V) → Int → (Int → Prop) → Prop
def Yrecord_Step (xrecord_leaps : Trecord_leaps) (xsort_Search_2 : Tsort_Search_2) (a0 : (List Eng.V)) (a1 : Int) (K : Int → Prop) : Prop :=
 xrecord_leaps a0 (fun r2 r3 r4 =>
 xsort_Search_2 (↑(List.length r2) : Int) a1 r2 r3 r4 (fun r5 r6 r7 r8 r9 =>
 (if (r5 == (↑(List.length r7) : Int)) then
 K 0
 else
 (if 0 ≤ r5 ∧ r5 < (↑(List.length r7) : Int) then
 (Eng.asInt IntKind.i64 (Eng.getC r7 (Int.toNat r5) (0 : Nat)) False fun n10 =>
 (if (n10 != r6) then
 K 0
 else
 (if (r5 == 0) then
 (if (0 :Int) ≤ 0 ∧ 0 < (↑(List.length r7) : Int) then
 (Eng.asInt IntKind.i64 (Eng.getC r7 (0 : Nat) (1 : Nat)) False fun n11 =>
 K n11)
 else
 False)
 else
 (if 0 ≤ r5 ∧ r5 < (↑(List.length r7) : Int) then
 (Eng.asInt IntKind.i64 (Eng.getC r7 (Int.toNat r5) (1 : Nat)) False fun n12 =>
 (if 0 ≤ w64 (r5 - 1) ∧ w64 (r5 - 1) < (↑(List.length r7) : Int) then
 (Eng.asInt IntKind.i64 (Eng.getC r7 (Int.toNat (w64 (r5 - 1))) (1 : Nat)) False fun n13 =>
 K (w64 (n12 - n13)))
 else
 False))
 else
 False))))
 else
 False))))
def Xrecord_Step : Trecord_Step := Yrecord_Step Xrecord_leaps Xsort_Search_2
def Jrecord_Step (X : Trecord_Step) : Inst := mkI 110 pL79 .nil pL6 .nil X
def Irecord_Step : Inst := Jrecord_Step Xrecord_Step
theorem Erecord_Step (xrecord_leaps : Trecord_leaps) (xsort_Search_2 : Tsort_Search_2) : EqF Tryz.prog 45 gives Tryz.f110 [Jrecord_leaps xrecord_leaps, Jsort_Search_2 xsort_Search_2] [] (Jrecord_Step (Yrecord_Step xrecord_leaps xsort_Search_2)) := fun x y K => by kernel_rfl
theorem Irecord_Step_ok : InstOk Tryz.prog G.1 Irecord_Step := iok (gives := gives) [] (okCons Irecord_leaps_ok (okCons Isort_Search_2_ok okNil)) 45 follows Tryz.func110 (by kernel_rfl) (fun x => by kernel_rfl) (Erecord_Step Xrecord_leaps Xsort_Search_2)
abbrev Tday_End : Type := Int → (Bool → Prop) → Prop
def Yday_End (xday_Date : Tday_Date) (xday_Last : Tday_Last) (a0 : Int) (K : Bool → Prop) : Prop :=
 xday_Date a0 (fun r1 r2 r3 r4 =>
 xday_Last r1 r2 (fun r5 r6 =>
 (if r4 then
 K (r3 == r5)
 else
 K false)))
def Xday_End : Tday_End := Yday_End Xday_Date Xday_Last
def Jday_End (X : Tday_End) : Inst := mkI 270 pL6 .nil pL1 .nil X
def Iday_End : Inst := Jday_End Xday_End
theorem Eday_End (xday_Date : Tday_Date) (xday_Last : Tday_Last) : EqF Tryz.prog 28 gives Tryz.f270 [Jday_Date xday_Date, Jday_Last xday_Last] [] (Jday_End (Yday_End xday_Date xday_Last)) := fun x y K => by kernel_rfl
theorem Iday_End_ok : InstOk Tryz.prog G.1 Iday_End := iok (gives := gives) [] (okCons Iday_Date_ok (okCons Iday_Last_ok okNil)) 28 follows Tryz.func270 (by kernel_rfl) (fun x => by kernel_rfl) (Eday_End Xday_Date Xday_Last)
abbrev Tleap_wrong : Type := Int → Q87 → Int → (Int → Prop) → Prop
def Yleap_wrong (xday_End : Tday_End) (a0 : Int) (a1 : Q87) (a2 : Int) (K : Int → Prop) : Prop :=
 (if decide (a0 ≥ 200) then
 K 8
 else
 (if decide (a1.1 < 730) then
 (if decide (a1.1 < 730) then
 K 9
 else
 xday_End a1.1 (fun r3 =>
 (if (!r3) then
 K 5
 else
 (if (a1.2.1 != 1) then
 (if (a1.2.1 != (-1)) then
 K 6
 else
 (if decide (a1.1 ≤ a2) then
 K 4
 else
 K 0))
 else
 (if decide (a1.1 ≤ a2) then
 K 4
 else
 K 0)))))
 else
 (if decide (a1.1 ≥ 2932896) then
 K 9
 else
 xday_End a1.1 (fun r4 =>
 (if (!r4) then
 K 5
 else
 (if (a1.2.1 != 1) then
 (if (a1.2.1 != (-1)) then
 K 6
 else
 (if decide (a1.1 ≤ a2) then
 K 4
 else
 K 0))
 else
 (if decide (a1.1 ≤ a2) then
 K 4
 else
 K 0)))))))
def Xleap_wrong : Tleap_wrong := Yleap_wrong Xday_End
def Jleap_wrong (X : Tleap_wrong) : Inst := mkI 257 pL88 .nil pL6 .nil X
def Ileap_wrong : Inst := Jleap_wrong Xleap_wrong
theorem Eleap_wrong (xday_End : Tday_End) : EqF Tryz.prog 36 gives Tryz.f257 [Jday_End xday_End] [] (Jleap_wrong (Yleap_wrong xday_End)) := fun x y K => by kernel_rfl
theorem Ileap_wrong_ok : InstOk Tryz.prog G.1 Ileap_wrong := iok (gives := gives) [] (okCons Iday_End_ok okNil) 36 follows Tryz.func257 (by kernel_rfl) (fun x => by kernel_rfl) (Eleap_wrong Xday_End)
abbrev Tleap_Check : Type := Q89 → (Int → Int → Prop) → Prop
def Lleap_Check_0 (xleap_wrong : Tleap_wrong) (K : Int → Int → Prop) : (Q90 → Prop) → Q90 → Prop := fun k1 x2 =>
 (if decide (x2.1.2.2.2.2.2.2.1 < x2.1.2.2.2.2.2.1) then
 (if 0 ≤ x2.1.2.2.2.2.2.2.1 ∧ x2.1.2.2.2.2.2.2.1 < (↑(List.length x2.1.2.2.2.2.1) : Int) then
 (Eng.asInt IntKind.i64 (Eng.getC x2.1.2.2.2.2.1 (Int.toNat x2.1.2.2.2.2.2.2.1) (0 : Nat)) False fun n3 =>
 (Eng.asInt IntKind.i64 (Eng.getC x2.1.2.2.2.2.1 (Int.toNat x2.1.2.2.2.2.2.2.1) (1 : Nat)) False fun n4 =>
 (Eng.asBool (Eng.getC x2.1.2.2.2.2.1 (Int.toNat x2.1.2.2.2.2.2.2.1) (2 : Nat)) False fun b5 =>
 xleap_wrong x2.1.2.2.2.2.2.2.1 (n3, n4, b5, ()) x2.1.2.2.2.1 (fun r6 =>
 (if (r6 != 0) then
 K x2.1.2.2.2.2.2.2.1 r6
 else
 k1 (((), x2.1.2.1, x2.1.2.2.1, n3, x2.1.2.2.2.2.1, x2.1.2.2.2.2.2.1, w64 (x2.1.2.2.2.2.2.2.1 + 1), ()), x2.2))))))
 else
 False)
 else
 (if x2.2.1.2.1 then
 (lt (w64 (w64 (x2.1.2.2.2.1 + 1) * 86400)) fun v7 =>
 (if decide (x2.2.1.2.2.1 < if 63072000 > v7 then 63072000 else v7) then
 K (↑(List.length x2.2.1.1) : Int) 9
 else
 (if decide (x2.2.1.2.2.1 > 253402300799) then
 K (↑(List.length x2.2.1.1) : Int) 9
 else
 K (↑(List.length x2.2.1.1) : Int) 0)))
 else
 (if decide (x2.2.1.2.2.1 < 0) then
 K (↑(List.length x2.2.1.1) : Int) 9
 else
 (if decide (x2.2.1.2.2.1 > 0) then
 K (↑(List.length x2.2.1.1) : Int) 9
 else
 K (↑(List.length x2.2.1.1) : Int) 0))))
def Lleap_Check_0p : Lp := ⟨14366, [.trim 14366], pT91, pH92, 0⟩
def Yleap_Check (xleap_wrong : Tleap_wrong) (a0 : Q89) (K : Int → Int → Prop) : Prop :=
 lp (Lleap_Check_0 xleap_wrong K) (((), 0, 0, 729, a0.1, (↑(List.length a0.1) : Int), 0, ()), a0, ())
def Xleap_Check : Tleap_Check := Yleap_Check Xleap_wrong
def Jleap_Check (X : Tleap_Check) : Inst := mkI 231 pL93 .nil pL24 .nil X
def Ileap_Check : Inst := Jleap_Check Xleap_Check
theorem Eleap_Check (xleap_wrong : Tleap_wrong) : EqF Tryz.prog 51 gives Tryz.f231 [Jleap_wrong xleap_wrong] [Lleap_Check_0p] (Jleap_Check (Yleap_Check xleap_wrong)) := fun x y K => by kernel_rfl
theorem Ileap_Check_ok : InstOk Tryz.prog G.1 Ileap_Check := iok (gives := gives) [Lleap_Check_0p] (okCons Ileap_wrong_ok okNil) 51 follows Tryz.func231 (by kernel_rfl) (fun x => by kernel_rfl) (Eleap_Check Xleap_wrong)
abbrev Tleap_Right : Type := Q89 → (Bool → Prop) → Prop
def Yleap_Right (xleap_Check : Tleap_Check) (a0 : Q89) (K : Bool → Prop) : Prop :=
 xleap_Check a0 (fun r1 r2 =>
 K (r2 == 0))
def Xleap_Right : Tleap_Right := Yleap_Right Xleap_Check
def Jleap_Right (X : Tleap_Right) : Inst := mkI 201 pL93 .nil pL1 .nil X
def Ileap_Right : Inst := Jleap_Right Xleap_Right
theorem Eleap_Right (xleap_Check : Tleap_Check) : EqF Tryz.prog 12 gives Tryz.f201 [Jleap_Check xleap_Check] [] (Jleap_Right (Yleap_Right xleap_Check)) := fun x y K => by kernel_rfl
theorem Ileap_Right_ok : InstOk Tryz.prog G.1 Ileap_Right := iok (gives := gives) [] (okCons Ileap_Check_ok okNil) 12 follows Tryz.func201 (by kernel_rfl) (fun x => by kernel_rfl) (Eleap_Right Xleap_Check)
abbrev Trecord_Table : Type := (List Eng.V) → (Q94 → Bool → (List Eng.V) → Bool → Bool → Prop) → Prop
def Lrecord_Table_0 (xnum_Div : Tnum_Div) (xleap_Right : Tleap_Right) (K : Q94 → Bool → (List Eng.V) → Bool → Bool → Prop) : (Q95 → Prop) → Q95 → Prop := fun k4 x5 =>
 (if decide (x5.1.2.2.2.2.2.2.2.1 < x5.1.2.2.2.2.2.2.1) then
 (if 0 ≤ x5.1.2.2.2.2.2.2.2.1 ∧ x5.1.2.2.2.2.2.2.2.1 < (↑(List.length x5.2.2.1.1) : Int) then
 (Eng.asInt IntKind.i64 (Eng.getC x5.2.2.1.1 (Int.toNat x5.1.2.2.2.2.2.2.2.1) (0 : Nat)) False fun n6 =>
 (Eng.asInt IntKind.i64 (Eng.getC x5.2.2.1.1 (Int.toNat x5.1.2.2.2.2.2.2.2.1) (1 : Nat)) False fun n7 =>
 (lt (if 0 < w64 (n7 - x5.1.2.2.2.1) then 0 else w64 (n7 - x5.1.2.2.2.1)) fun v8 =>
 (lt (w64 (w64 (n6 - x5.1.2.2.2.1) - v8)) fun v9 =>
 xnum_Div v9 86400 (fun r10 r11 r12 =>
 (if (r11 != 0) then
 K ((), false, 0, ()) false [] true true
 else
 (if Eng.roomOk (List.length x5.2.2.2.1 + List.length [Eng.V.agg [Eng.V.c (Value.int IntKind.i64 (w64 (r10 - 1))), Eng.V.c (Value.int IntKind.i64 (w64 (n7 - x5.1.2.2.2.1))), Eng.V.c (Value.bool false)]]) (24 : Nat) then
 (lt (x5.2.2.2.1 ++ [Eng.V.agg [Eng.V.c (Value.int IntKind.i64 (w64 (r10 - 1))), Eng.V.c (Value.int IntKind.i64 (w64 (n7 - x5.1.2.2.2.1))), Eng.V.c (Value.bool false)]]) fun v13 =>
 k4 ((x5.1.1, (), x5.1.2.2.1, n7, (), (), x5.1.2.2.2.2.2.2.1, w64 (x5.1.2.2.2.2.2.2.2.1 + 1), ()), ((), x5.2.1.2), x5.2.2.1, v13, ()))
 else
 False)))))))
 else
 False)
 else
 (if decide ((↑(List.length x5.2.2.1.1) : Int) < (↑(List.length x5.1.1) : Int)) then
 (if 0 ≤ (↑(List.length x5.2.2.1.1) : Int) ∧ (↑(List.length x5.2.2.1.1) : Int) < (↑(List.length x5.1.1) : Int) then
 (Eng.asInt IntKind.i64 (Eng.getC x5.1.1 (Int.toNat (↑(List.length x5.2.2.1.1) : Int)) (0 : Nat)) False fun n14 =>
 xleap_Right (x5.2.2.2.1, decide ((↑(List.length x5.2.2.1.1) : Int) < (↑(List.length x5.1.1) : Int)), w64 (n14 - x5.1.2.2.2.1), ()) (fun r15 =>
 (if (!r15) then
 K ((), false, 0, ()) false [] true true
 else
 K ((), decide ((↑(List.length x5.2.2.1.1) : Int) < (↑(List.length x5.1.1) : Int)), w64 (n14 - x5.1.2.2.2.1), ()) true x5.2.2.2.1 true false)))
 else
 False)
 else
 xleap_Right (x5.2.2.2.1, decide ((↑(List.length x5.2.2.1.1) : Int) < (↑(List.length x5.1.1) : Int)), x5.2.1.2.2) (fun r16 =>
 (if (!r16) then
 K ((), false, 0, ()) false [] true true
 else
 K ((), decide ((↑(List.length x5.2.2.1.1) : Int) < (↑(List.length x5.1.1) : Int)), x5.2.1.2.2) true x5.2.2.2.1 true false))))
def Lrecord_Table_0p : Lp := ⟨114749, [.trim 114749, .trim 114749, .fatC 96 0 3 1552, .trim 114749], pT96, pH97, 0⟩
def Yrecord_Table (xrecord_leaps : Trecord_leaps) (xnum_Div : Tnum_Div) (xleap_Right : Tleap_Right) (a0 : (List Eng.V)) (K : Q94 → Bool → (List Eng.V) → Bool → Bool → Prop) : Prop :=
 xrecord_leaps a0 (fun r1 r2 r3 =>
 lp (Lrecord_Table_0 xnum_Div xleap_Right K) ((a0, (), false, 0, (), (), (↑(List.length r1) : Int), 0, ()), ((), false, 0, ()), (r1, r2, r3), [], ()))
def Xrecord_Table : Trecord_Table := Yrecord_Table Xrecord_leaps Xnum_Div Xleap_Right
def Jrecord_Table (X : Trecord_Table) : Inst := mkI 163 pL29 .nil pL98 pH99 X
def Irecord_Table : Inst := Jrecord_Table Xrecord_Table
theorem Erecord_Table (xrecord_leaps : Trecord_leaps) (xnum_Div : Tnum_Div) (xleap_Right : Tleap_Right) : EqF Tryz.prog 73 gives Tryz.f163 [Jrecord_leaps xrecord_leaps, Jnum_Div xnum_Div, Jleap_Right xleap_Right] [Lrecord_Table_0p] (Jrecord_Table (Yrecord_Table xrecord_leaps xnum_Div xleap_Right)) := fun x y K => by kernel_rfl
theorem Irecord_Table_ok : InstOk Tryz.prog G.1 Irecord_Table := iok (gives := gives) [Lrecord_Table_0p] (okCons Irecord_leaps_ok (okCons Inum_Div_ok (okCons Ileap_Right_ok okNil))) 73 follows Tryz.func163 (by kernel_rfl) (fun x => by kernel_rfl) (Erecord_Table Xrecord_leaps Xnum_Div Xleap_Right)
abbrev Tscale_Known : Type := (List Eng.V) → (Bool → Prop) → Prop
def Yscale_Known (xrecord_Right : Trecord_Right) (xrecord_Table : Trecord_Table) (a0 : (List Eng.V)) (K : Bool → Prop) : Prop :=
 xrecord_Right a0 (fun r1 =>
 (if (!r1) then
 K false
 else
 xrecord_Table a0 (fun r2 r3 r4 r5 r6 =>
 K r3)))
def Xscale_Known : Tscale_Known := Yscale_Known Xrecord_Right Xrecord_Table
def Jscale_Known (X : Tscale_Known) : Inst := mkI 103 pL29 .nil pL1 .nil X
def Iscale_Known : Inst := Jscale_Known Xscale_Known
theorem Escale_Known (xrecord_Right : Trecord_Right) (xrecord_Table : Trecord_Table) : EqF Tryz.prog 14 gives Tryz.f103 [Jrecord_Right xrecord_Right, Jrecord_Table xrecord_Table] [] (Jscale_Known (Yscale_Known xrecord_Right xrecord_Table)) := fun x y K => by kernel_rfl
theorem Iscale_Known_ok : InstOk Tryz.prog G.1 Iscale_Known := iok (gives := gives) [] (okCons Irecord_Right_ok (okCons Irecord_Table_ok okNil)) 14 follows Tryz.func103 (by kernel_rfl) (fun x => by kernel_rfl) (Escale_Known Xrecord_Right Xrecord_Table)
abbrev Tscale_expired : Type := (List Eng.V) → Int → (Bool → Prop) → Prop
def Yscale_expired (xrecord_Expiry : Trecord_Expiry) (a0 : (List Eng.V)) (a1 : Int) (K : Bool → Prop) : Prop :=
 xrecord_Expiry a0 (fun r2 r3 =>
 (if r3 then
 K (decide (a1 ≥ r2))
 else
 K false))
def Xscale_expired : Tscale_expired := Yscale_expired Xrecord_Expiry
def Jscale_expired (X : Tscale_expired) : Inst := mkI 106 pL79 .nil pL1 .nil X
def Iscale_expired : Inst := Jscale_expired Xscale_expired
theorem Escale_expired (xrecord_Expiry : Trecord_Expiry) : EqF Tryz.prog 18 gives Tryz.f106 [Jrecord_Expiry xrecord_Expiry] [] (Jscale_expired (Yscale_expired xrecord_Expiry)) := fun x y K => by kernel_rfl
theorem Iscale_expired_ok : InstOk Tryz.prog G.1 Iscale_expired := iok (gives := gives) [] (okCons Irecord_Expiry_ok okNil) 18 follows Tryz.func106 (by kernel_rfl) (fun x => by kernel_rfl) (Escale_expired Xrecord_Expiry)
abbrev Tscale_Utc : Type := (List Eng.V) → Int → (Int → Int → Int → Prop) → Prop
def Yscale_Utc (xnum_Add : Tnum_Add) (xscale_Known : Tscale_Known) (xscale_expired : Tscale_expired) (xrecord_Sum : Trecord_Sum) (xnum_Sub : Tnum_Sub) (xnum_Div : Tnum_Div) (xrecord_Step : Trecord_Step) (a0 : (List Eng.V)) (a1 : Int) (K : Int → Int → Int → Prop) : Prop :=
 xnum_Add a1 63072000 (fun r2 r3 =>
 xscale_Known a0 (fun r4 =>
 (if (!r4) then
 K 0 0 1
 else
 (if decide (a1 < 0) then
 K 0 0 9
 else
 (if r3 then
 xscale_expired a0 r2 (fun r5 =>
 (if r5 then
 K 0 0 10
 else
 (if (!r3) then
 xscale_expired a0 9223372036854775807 (fun r6 =>
 (if r6 then
 K 0 0 10
 else
 (if (!r3) then
 K 0 0 9
 else
 xrecord_Sum a0 r2 (fun r7 =>
 xnum_Sub r2 r7 (fun r8 r9 =>
 xnum_Div r8 86400 (fun r10 r11 r12 =>
 xrecord_Step a0 r2 (fun r13 =>
 (if decide (r13 > 0) then
 (if (!r9) then
 K 0 0 9
 else
 (if decide (r10 > 2932896) then
 K 0 0 9
 else
 K r10 (w64 (r11 + 1)) 0))
 else
 (if (!r9) then
 K 0 0 9
 else
 (if decide (r10 > 2932896) then
 K 0 0 9
 else
 K r10 r11 0))))))))))
 else
 (if (!r3) then
 K 0 0 9
 else
 xrecord_Sum a0 r2 (fun r14 =>
 xnum_Sub r2 r14 (fun r15 r16 =>
 xnum_Div r15 86400 (fun r17 r18 r19 =>
 xrecord_Step a0 r2 (fun r20 =>
 (if decide (r20 > 0) then
 (if (!r16) then
 K 0 0 9
 else
 (if decide (r17 > 2932896) then
 K 0 0 9
 else
 K r17 (w64 (r18 + 1)) 0))
 else
 (if (!r16) then
 K 0 0 9
 else
 (if decide (r17 > 2932896) then
 K 0 0 9
 else
 K r17 r18 0)))))))))))
 else
 (if (!r3) then
 xscale_expired a0 9223372036854775807 (fun r21 =>
 (if r21 then
 K 0 0 10
 else
 (if (!r3) then
 K 0 0 9
 else
 xrecord_Sum a0 r2 (fun r22 =>
 xnum_Sub r2 r22 (fun r23 r24 =>
 xnum_Div r23 86400 (fun r25 r26 r27 =>
 xrecord_Step a0 r2 (fun r28 =>
 (if decide (r28 > 0) then
 (if (!r24) then
 K 0 0 9
 else
 (if decide (r25 > 2932896) then
 K 0 0 9
 else
 K r25 (w64 (r26 + 1)) 0))
 else
 (if (!r24) then
 K 0 0 9
 else
 (if decide (r25 > 2932896) then
 K 0 0 9
 else
 K r25 r26 0))))))))))
 else
 (if (!r3) then
 K 0 0 9
 else
 xrecord_Sum a0 r2 (fun r29 =>
 xnum_Sub r2 r29 (fun r30 r31 =>
 xnum_Div r30 86400 (fun r32 r33 r34 =>
 xrecord_Step a0 r2 (fun r35 =>
 (if decide (r35 > 0) then
 (if (!r31) then
 K 0 0 9
 else
 (if decide (r32 > 2932896) then
 K 0 0 9
 else
 K r32 (w64 (r33 + 1)) 0))
 else
 (if (!r31) then
 K 0 0 9
 else
 (if decide (r32 > 2932896) then
 K 0 0 9
 else
 K r32 r33 0))))))))))))))
def Xscale_Utc : Tscale_Utc := Yscale_Utc Xnum_Add Xscale_Known Xscale_expired Xrecord_Sum Xnum_Sub Xnum_Div Xrecord_Step
def Jscale_Utc (X : Tscale_Utc) : Inst := mkI 43 pL79 .nil pL20 .nil X
def Iscale_Utc : Inst := Jscale_Utc Xscale_Utc
theorem Escale_Utc (xnum_Add : Tnum_Add) (xscale_Known : Tscale_Known) (xscale_expired : Tscale_expired) (xrecord_Sum : Trecord_Sum) (xnum_Sub : Tnum_Sub) (xnum_Div : Tnum_Div) (xrecord_Step : Trecord_Step) : EqF Tryz.prog 69 gives Tryz.f43 [Jnum_Add xnum_Add, Jscale_Known xscale_Known, Jscale_expired xscale_expired, Jrecord_Sum xrecord_Sum, Jnum_Sub xnum_Sub, Jnum_Div xnum_Div, Jrecord_Step xrecord_Step] [] (Jscale_Utc (Yscale_Utc xnum_Add xscale_Known xscale_expired xrecord_Sum xnum_Sub xnum_Div xrecord_Step)) := fun x y K => by kernel_rfl
theorem Iscale_Utc_ok : InstOk Tryz.prog G.1 Iscale_Utc := iok (gives := gives) [] (okCons Inum_Add_ok (okCons Iscale_Known_ok (okCons Iscale_expired_ok (okCons Irecord_Sum_ok (okCons Inum_Sub_ok (okCons Inum_Div_ok (okCons Irecord_Step_ok okNil))))))) 69 follows Tryz.func43 (by kernel_rfl) (fun x => by kernel_rfl) (Escale_Utc Xnum_Add Xscale_Known Xscale_expired Xrecord_Sum Xnum_Sub Xnum_Div Xrecord_Step)
abbrev Tscale_step_1 : Type := Q87 → Int → (Int → Prop) → Prop
def Yscale_step_1 (a0 : Q87) (a1 : Int) (K : Int → Prop) : Prop :=
 K (w64 (a0.1 - a1))
def Xscale_step_1 : Tscale_step_1 := Yscale_step_1
def Jscale_step_1 (X : Tscale_step_1) : Inst := mkI 256 pL100 .nil pL6 .nil X
def Iscale_step_1 : Inst := Jscale_step_1 Xscale_step_1
theorem Escale_step_1 : EqF Tryz.prog 9 gives Tryz.f256 [] [] (Jscale_step_1 (Yscale_step_1)) := fun x y K => by kernel_rfl
theorem Iscale_step_1_ok : InstOk Tryz.prog G.1 Iscale_step_1 := iok (gives := gives) [] okNil 9 follows Tryz.func256 (by kernel_rfl) (fun x => by kernel_rfl) (Escale_step_1)
abbrev Tslices_BinarySearchFunc___api_Leap_api_Leap_int_ : Type := (List Eng.V) → Int → (Int → Bool → Prop) → Prop
def Lslices_BinarySearchFunc___api_Leap_api_Leap_int__0 (xscale_step_1 : Tscale_step_1) (K : Int → Bool → Prop) : (Q101 → Prop) → Q101 → Prop := fun k2 x3 =>
 (if decide (x3.1.2.2.2.2.2.2.1 < x3.1.2.2.2.2.2.2.2.1) then
 (lt (Int.fdiv (wu64 (w64 (x3.1.2.2.2.2.2.2.1 + x3.1.2.2.2.2.2.2.2.1))) 2) fun v4 =>
 (if 0 ≤ w64 v4 ∧ w64 v4 < (↑(List.length x3.1.1) : Int) then
 (Eng.asInt IntKind.i64 (Eng.getC x3.1.1 (Int.toNat (w64 v4)) (0 : Nat)) False fun n5 =>
 (Eng.asInt IntKind.i64 (Eng.getC x3.1.1 (Int.toNat (w64 v4)) (1 : Nat)) False fun n6 =>
 (Eng.asBool (Eng.getC x3.1.1 (Int.toNat (w64 v4)) (2 : Nat)) False fun b7 =>
 xscale_step_1 (n5, n6, b7, ()) x3.1.2.1 (fun r8 =>
 (if decide (r8 < 0) then
 k2 ((x3.1.1, x3.1.2.1, ((), ()), x3.1.2.2.2.1, x3.1.2.2.2.2.1, x3.1.2.2.2.2.2.1, w64 (w64 v4 + 1), x3.1.2.2.2.2.2.2.2), ())
 else
 k2 ((x3.1.1, x3.1.2.1, ((), ()), x3.1.2.2.2.1, x3.1.2.2.2.2.1, x3.1.2.2.2.2.2.1, x3.1.2.2.2.2.2.2.1, w64 v4, ()), ()))))))
 else
 False))
 else
 (if decide (x3.1.2.2.2.2.2.2.1 < x3.1.2.2.2.2.2.1) then
 (if 0 ≤ x3.1.2.2.2.2.2.2.1 ∧ x3.1.2.2.2.2.2.2.1 < (↑(List.length x3.1.1) : Int) then
 (Eng.asInt IntKind.i64 (Eng.getC x3.1.1 (Int.toNat x3.1.2.2.2.2.2.2.1) (0 : Nat)) False fun n9 =>
 (Eng.asInt IntKind.i64 (Eng.getC x3.1.1 (Int.toNat x3.1.2.2.2.2.2.2.1) (1 : Nat)) False fun n10 =>
 (Eng.asBool (Eng.getC x3.1.1 (Int.toNat x3.1.2.2.2.2.2.2.1) (2 : Nat)) False fun b11 =>
 xscale_step_1 (n9, n10, b11, ()) x3.1.2.1 (fun r12 =>
 K x3.1.2.2.2.2.2.2.1 (r12 == 0)))))
 else
 False)
 else
 K x3.1.2.2.2.2.2.2.1 false))
def Lslices_BinarySearchFunc___api_Leap_api_Leap_int__0p : Lp := ⟨1991, [.trim 1991], pT102, .nil, 0⟩
def Yslices_BinarySearchFunc___api_Leap_api_Leap_int_ (xscale_step_1 : Tscale_step_1) (a0 : (List Eng.V)) (a1 : Int) (K : Int → Bool → Prop) : Prop :=
 lp (Lslices_BinarySearchFunc___api_Leap_api_Leap_int__0 xscale_step_1 K) ((a0, a1, ((), ()), 0, false, (↑(List.length a0) : Int), 0, (↑(List.length a0) : Int), ()), ())
def Xslices_BinarySearchFunc___api_Leap_api_Leap_int_ : Tslices_BinarySearchFunc___api_Leap_api_Leap_int_ := Yslices_BinarySearchFunc___api_Leap_api_Leap_int_ Xscale_step_1
def Jslices_BinarySearchFunc___api_Leap_api_Leap_int_ (X : Tslices_BinarySearchFunc___api_Leap_api_Leap_int_) : Inst := mkI 255 pL103 .nil pL25 .nil X
def Islices_BinarySearchFunc___api_Leap_api_Leap_int_ : Inst := Jslices_BinarySearchFunc___api_Leap_api_Leap_int_ Xslices_BinarySearchFunc___api_Leap_api_Leap_int_
theorem Eslices_BinarySearchFunc___api_Leap_api_Leap_int_ (xscale_step_1 : Tscale_step_1) : EqF Tryz.prog 49 gives Tryz.f255 [Jscale_step_1 xscale_step_1] [Lslices_BinarySearchFunc___api_Leap_api_Leap_int__0p] (Jslices_BinarySearchFunc___api_Leap_api_Leap_int_ (Yslices_BinarySearchFunc___api_Leap_api_Leap_int_ xscale_step_1)) := fun x y K => by kernel_rfl
theorem Islices_BinarySearchFunc___api_Leap_api_Leap_int__ok : InstOk Tryz.prog G.1 Islices_BinarySearchFunc___api_Leap_api_Leap_int_ := iok (gives := gives) [Lslices_BinarySearchFunc___api_Leap_api_Leap_int__0p] (okCons Iscale_step_1_ok okNil) 49 follows Tryz.func255 (by kernel_rfl) (fun x => by kernel_rfl) (Eslices_BinarySearchFunc___api_Leap_api_Leap_int_ Xscale_step_1)
abbrev Tscale_step : Type := (List Eng.V) → Int → (Int → Prop) → Prop
def Yscale_step (xrecord_Table : Trecord_Table) (xslices_BinarySearchFunc___api_Leap_api_Leap_int_ : Tslices_BinarySearchFunc___api_Leap_api_Leap_int_) (a0 : (List Eng.V)) (a1 : Int) (K : Int → Prop) : Prop :=
 xrecord_Table a0 (fun r2 r3 r4 r5 r6 =>
 xslices_BinarySearchFunc___api_Leap_api_Leap_int_ r4 a1 (fun r7 r8 =>
 (if (!r8) then
 K 0
 else
 (if 0 ≤ r7 ∧ r7 < (↑(List.length r4) : Int) then
 (Eng.asInt IntKind.i64 (Eng.getC r4 (Int.toNat r7) (1 : Nat)) False fun n9 =>
 K n9)
 else
 False))))
def Xscale_step : Tscale_step := Yscale_step Xrecord_Table Xslices_BinarySearchFunc___api_Leap_api_Leap_int_
def Jscale_step (X : Tscale_step) : Inst := mkI 230 pL79 .nil pL6 .nil X
def Iscale_step : Inst := Jscale_step Xscale_step
theorem Escale_step (xrecord_Table : Trecord_Table) (xslices_BinarySearchFunc___api_Leap_api_Leap_int_ : Tslices_BinarySearchFunc___api_Leap_api_Leap_int_) : EqF Tryz.prog 29 gives Tryz.f230 [Jrecord_Table xrecord_Table, Jslices_BinarySearchFunc___api_Leap_api_Leap_int_ xslices_BinarySearchFunc___api_Leap_api_Leap_int_] [] (Jscale_step (Yscale_step xrecord_Table xslices_BinarySearchFunc___api_Leap_api_Leap_int_)) := fun x y K => by kernel_rfl
theorem Iscale_step_ok : InstOk Tryz.prog G.1 Iscale_step := iok (gives := gives) [] (okCons Irecord_Table_ok (okCons Islices_BinarySearchFunc___api_Leap_api_Leap_int__ok okNil)) 29 follows Tryz.func230 (by kernel_rfl) (fun x => by kernel_rfl) (Escale_step Xrecord_Table Xslices_BinarySearchFunc___api_Leap_api_Leap_int_)
abbrev Tscale_Length : Type := (List Eng.V) → Int → (Int → Int → Prop) → Prop
def Yscale_Length (xscale_Known : Tscale_Known) (xscale_step : Tscale_step) (a0 : (List Eng.V)) (a1 : Int) (K : Int → Int → Prop) : Prop :=
 xscale_Known a0 (fun r2 =>
 (if (!r2) then
 K 0 1
 else
 (if decide (a1 < 730) then
 (if decide (a1 < 730) then
 K 0 9
 else
 xscale_step a0 a1 (fun r3 =>
 K (w64 (86400 + r3)) 0))
 else
 (if decide (a1 > 2932896) then
 K 0 9
 else
 xscale_step a0 a1 (fun r4 =>
 K (w64 (86400 + r4)) 0)))))
def Xscale_Length : Tscale_Length := Yscale_Length Xscale_Known Xscale_step
def Jscale_Length (X : Tscale_Length) : Inst := mkI 199 pL79 .nil pL24 .nil X
def Iscale_Length : Inst := Jscale_Length Xscale_Length
theorem Escale_Length (xscale_Known : Tscale_Known) (xscale_step : Tscale_step) : EqF Tryz.prog 19 gives Tryz.f199 [Jscale_Known xscale_Known, Jscale_step xscale_step] [] (Jscale_Length (Yscale_Length xscale_Known xscale_step)) := fun x y K => by kernel_rfl
theorem Iscale_Length_ok : InstOk Tryz.prog G.1 Iscale_Length := iok (gives := gives) [] (okCons Iscale_Known_ok (okCons Iscale_step_ok okNil)) 19 follows Tryz.func199 (by kernel_rfl) (fun x => by kernel_rfl) (Escale_Length Xscale_Known Xscale_step)
abbrev Tscale_begins : Type := (List Eng.V) → Int → (Int → Prop) → Prop
def Lscale_begins_0 (K : Int → Prop) : (Q104 → Prop) → Q104 → Prop := fun k9 x10 =>
 (if decide (x10.1.2.2.2.2.1 < (↑(List.length x10.2.2.1.1) : Int)) then
 (if 0 ≤ x10.1.2.2.2.2.1 ∧ x10.1.2.2.2.2.1 < (↑(List.length x10.2.2.1.1) : Int) then
 (Eng.asInt IntKind.i64 (Eng.getC x10.2.2.1.1 (Int.toNat x10.1.2.2.2.2.1) (0 : Nat)) False fun n11 =>
 (if decide (n11 < x10.1.2.1) then
 (if 0 ≤ x10.1.2.2.2.2.1 ∧ x10.1.2.2.2.2.1 < (↑(List.length x10.2.2.1.1) : Int) then
 (Eng.asInt IntKind.i64 (Eng.getC x10.2.2.1.1 (Int.toNat x10.1.2.2.2.2.1) (1 : Nat)) False fun n12 =>
 k9 ((x10.1.1, x10.1.2.1, x10.1.2.2.1, (), w64 (x10.1.2.2.2.2.1 + 1), w64 (x10.1.2.2.2.2.2.1 + n12), ()), ((), x10.2.1.2), x10.2.2))
 else
 False)
 else
 (lt (w64 (w64 (x10.1.2.1 * 86400) + x10.1.2.2.2.2.2.1)) fun v13 =>
 K v13)))
 else
 False)
 else
 (lt (w64 (w64 (x10.1.2.1 * 86400) + x10.1.2.2.2.2.2.1)) fun v14 =>
 K v14))
def Lscale_begins_0p : Lp := ⟨435, [.trim 435], pT105, pH106, 0⟩
def Yscale_begins (xrecord_Table : Trecord_Table) (a0 : (List Eng.V)) (a1 : Int) (K : Int → Prop) : Prop :=
 xrecord_Table a0 (fun r2 r3 r4 r5 r6 =>
 (if decide (0 < (↑(List.length r4) : Int)) then
 (if (0 :Int) ≤ 0 ∧ 0 < (↑(List.length r4) : Int) then
 (Eng.asInt IntKind.i64 (Eng.getC r4 (0 : Nat) (0 : Nat)) False fun n7 =>
 (if decide (n7 < a1) then
 (if (0 :Int) ≤ 0 ∧ 0 < (↑(List.length r4) : Int) then
 (Eng.asInt IntKind.i64 (Eng.getC r4 (0 : Nat) (1 : Nat)) False fun n8 =>
 lp (Lscale_begins_0 K) ((a0, a1, 0, (), 1, w64 (0 + n8), ()), ((), r2.2), (r4, r5, r6), ()))
 else
 False)
 else
 (lt (w64 (w64 (a1 * 86400) + 0)) fun v15 =>
 K v15)))
 else
 False)
 else
 (lt (w64 (w64 (a1 * 86400) + 0)) fun v16 =>
 K v16)))
def Xscale_begins : Tscale_begins := Yscale_begins Xrecord_Table
def Jscale_begins (X : Tscale_begins) : Inst := mkI 200 pL79 .nil pL6 .nil X
def Iscale_begins : Inst := Jscale_begins Xscale_begins
theorem Escale_begins (xrecord_Table : Trecord_Table) : EqF Tryz.prog 43 gives Tryz.f200 [Jrecord_Table xrecord_Table] [Lscale_begins_0p] (Jscale_begins (Yscale_begins xrecord_Table)) := fun x y K => by kernel_rfl
theorem Iscale_begins_ok : InstOk Tryz.prog G.1 Iscale_begins := iok (gives := gives) [Lscale_begins_0p] (okCons Irecord_Table_ok okNil) 43 follows Tryz.func200 (by kernel_rfl) (fun x => by kernel_rfl) (Escale_begins Xrecord_Table)
abbrev Tscale_Tai : Type := (List Eng.V) → Int → Int → (Int → Int → Prop) → Prop
def Yscale_Tai (xscale_Length : Tscale_Length) (xscale_begins : Tscale_begins) (xscale_expired : Tscale_expired) (a0 : (List Eng.V)) (a1 : Int) (a2 : Int) (K : Int → Int → Prop) : Prop :=
 xscale_Length a0 a1 (fun r3 r4 =>
 (if (r4 != 0) then
 K 0 r4
 else
 (if decide (a2 < 0) then
 (if decide (a2 < 0) then
 K 0 9
 else
 (if decide (a2 ≥ r3) then
 K 0 11
 else
 xscale_begins a0 a1 (fun r5 =>
 xscale_expired a0 (w64 (r5 + a2)) (fun r6 =>
 (if r6 then
 K 0 10
 else
 (lt (w64 (w64 (r5 + a2) - 63072000)) fun v7 =>
 K v7 0))))))
 else
 (if decide (a2 > 86400) then
 K 0 9
 else
 (if decide (a2 ≥ r3) then
 K 0 11
 else
 xscale_begins a0 a1 (fun r8 =>
 xscale_expired a0 (w64 (r8 + a2)) (fun r9 =>
 (if r9 then
 K 0 10
 else
 (lt (w64 (w64 (r8 + a2) - 63072000)) fun v10 =>
 K v10 0)))))))))
def Xscale_Tai : Tscale_Tai := Yscale_Tai Xscale_Length Xscale_begins Xscale_expired
def Jscale_Tai (X : Tscale_Tai) : Inst := mkI 162 pL107 .nil pL24 .nil X
def Iscale_Tai : Inst := Jscale_Tai Xscale_Tai
theorem Escale_Tai (xscale_Length : Tscale_Length) (xscale_begins : Tscale_begins) (xscale_expired : Tscale_expired) : EqF Tryz.prog 40 gives Tryz.f162 [Jscale_Length xscale_Length, Jscale_begins xscale_begins, Jscale_expired xscale_expired] [] (Jscale_Tai (Yscale_Tai xscale_Length xscale_begins xscale_expired)) := fun x y K => by kernel_rfl
theorem Iscale_Tai_ok : InstOk Tryz.prog G.1 Iscale_Tai := iok (gives := gives) [] (okCons Iscale_Length_ok (okCons Iscale_begins_ok (okCons Iscale_expired_ok okNil))) 40 follows Tryz.func162 (by kernel_rfl) (fun x => by kernel_rfl) (Escale_Tai Xscale_Length Xscale_begins Xscale_expired)
abbrev Tstamp_Clock : Type := Int → (Int → Int → Int → Bool → Prop) → Prop
def Ystamp_Clock (a0 : Int) (K : Int → Int → Int → Bool → Prop) : Prop :=
 (if decide (a0 < 0) then
 K 0 0 0 false
 else
 (if decide (a0 > 86400) then
 K 0 0 0 false
 else
 (if (a0 == 86400) then
 K 23 59 60 true
 else
 K (w64 (Int.tdiv a0 3600)) (Int.tmod (w64 (Int.tdiv a0 60)) 60) (Int.tmod a0 60) true)))
def Xstamp_Clock : Tstamp_Clock := Ystamp_Clock
def Jstamp_Clock (X : Tstamp_Clock) : Inst := mkI 83 pL6 .nil pL81 .nil X
def Istamp_Clock : Inst := Jstamp_Clock Xstamp_Clock
theorem Estamp_Clock : EqF Tryz.prog 23 gives Tryz.f83 [] [] (Jstamp_Clock (Ystamp_Clock)) := fun x y K => by kernel_rfl
theorem Istamp_Clock_ok : InstOk Tryz.prog G.1 Istamp_Clock := iok (gives := gives) [] okNil 23 follows Tryz.func83 (by kernel_rfl) (fun x => by kernel_rfl) (Estamp_Clock)
abbrev Tstamp_fill : Type := ByteArray → (List Eng.V) → Bool → Bool → (ByteArray → Prop) → Prop
def Lstamp_fill_0 (K : ByteArray → Prop) (a1 : (List Eng.V)) (a2 : Bool) (a3 : Bool) : (Q108 → Prop) → Q108 → Prop := fun k4 x5 =>
 (if decide (x5.1.2.2.2.2.1 ≥ 0) then
 (if 0 ≤ x5.1.2.2.2.2.1 ∧ x5.1.2.2.2.2.1 < (↑(List.length x5.2.2.1) : Int) then
 (Eng.asInt IntKind.u8 (Eng.getC x5.2.2.1 (Int.toNat x5.1.2.2.2.2.1) (0 : Nat)) False fun n6 =>
 (if (n6 != 48) then
 k4 (((), x5.1.2.1, (), w64 (x5.1.2.2.2.1 - 1), w64 (x5.1.2.2.2.2.1 - 1), ()), x5.2)
 else
 (if 0 ≤ x5.1.2.2.2.2.1 ∧ x5.1.2.2.2.2.1 < (↑(List.length x5.2.2.1) : Int) then
 (Eng.asInt IntKind.u8 (Eng.getC x5.2.2.1 (Int.toNat x5.1.2.2.2.2.1) (0 : Nat)) False fun n7 =>
 (if 0 ≤ x5.1.2.2.2.1 ∧ x5.1.2.2.2.1 < (↑(List.length x5.2.1.1) : Int) then
 (Eng.asInt IntKind.i64 (Eng.getC x5.2.1.1 (Int.toNat x5.1.2.2.2.1) (0 : Nat)) False fun n8 =>
 (lt (wu8 (n7 + wu8 (Int.tmod n8 10))) fun v9 =>
 (if 0 ≤ x5.1.2.2.2.2.1 ∧ x5.1.2.2.2.2.1 < (↑(List.length x5.2.2.1) : Int) then
 (if Int.toNat x5.1.2.2.2.2.1 < List.length x5.2.2.1 then
 (if 0 ≤ x5.1.2.2.2.1 ∧ x5.1.2.2.2.1 < (↑(List.length x5.2.1.1) : Int) then
 (Eng.asInt IntKind.i64 (Eng.getC x5.2.1.1 (Int.toNat x5.1.2.2.2.1) (0 : Nat)) False fun n10 =>
 (if 0 ≤ x5.1.2.2.2.1 ∧ x5.1.2.2.2.1 < (↑(List.length x5.2.1.1) : Int) then
 (if x5.2.1.2.2 = false then
 (if Int.toNat x5.1.2.2.2.1 < List.length x5.2.1.1 then
 (lt (List.set x5.2.1.1 (Int.toNat x5.1.2.2.2.1) (Eng.setE (List.getD x5.2.1.1 (Int.toNat x5.1.2.2.2.1) Eng.V.bad) (0 : Nat) [Eng.V.c (Value.int IntKind.i64 (w64 (Int.tdiv n10 10)))])) fun v11 =>
 k4 (((), x5.1.2.1, (), x5.1.2.2.2.1, w64 (x5.1.2.2.2.2.1 - 1), ()), (v11, x5.2.1.2), List.set x5.2.2.1 (Int.toNat x5.1.2.2.2.2.1) (Eng.setE (List.getD x5.2.2.1 (Int.toNat x5.1.2.2.2.2.1) Eng.V.bad) (0 : Nat) [Eng.V.c (Value.int IntKind.u8 v9)]), ()))
 else
 False)
 else
 False)
 else
 False))
 else
 False)
 else
 False)
 else
 False)))
 else
 False))
 else
 False)))
 else
 False)
 else
 (if Eng.allU8 x5.2.2.1 then
 K (Eng.packB x5.2.2.1)
 else
 False))
def Lstamp_fill_0p : Lp := ⟨242, [.trim 242], pT109, pH110, 0⟩
def Ystamp_fill (a0 : ByteArray) (a1 : (List Eng.V)) (a2 : Bool) (a3 : Bool) (K : ByteArray → Prop) : Prop :=
 lp (Lstamp_fill_0 K a1 a2 a3) (((), ByteArray.mk #[], (), w64 ((↑(List.length a1) : Int) - 1), w64 ((↑(List.length (Eng.bytesV a0)) : Int) - 1), ()), (a1, a2, a3), Eng.bytesV a0, ())
def Xstamp_fill : Tstamp_fill := Ystamp_fill
def Jstamp_fill (X : Tstamp_fill) : Inst := mkI 114 pL111 pH14 pL8 .nil X
def Istamp_fill : Inst := Jstamp_fill Xstamp_fill
theorem Estamp_fill : EqF Tryz.prog 47 gives Tryz.f114 [] [Lstamp_fill_0p] (Jstamp_fill (Ystamp_fill)) := fun x y K => by kernel_rfl
theorem Istamp_fill_ok : InstOk Tryz.prog G.1 Istamp_fill := iok (gives := gives) [Lstamp_fill_0p] okNil 47 follows Tryz.func114 (by kernel_rfl) (fun x => by kernel_rfl) (Estamp_fill)
abbrev Tstamp_Text : Type := Int → Int → (ByteArray → Bool → Prop) → Prop
def Ystamp_Text (xday_Date : Tday_Date) (xstamp_Clock : Tstamp_Clock) (xstamp_fill : Tstamp_fill) (a0 : Int) (a1 : Int) (K : ByteArray → Bool → Prop) : Prop :=
 xday_Date a0 (fun r2 r3 r4 r5 =>
 xstamp_Clock a1 (fun r6 r7 r8 r9 =>
 (if (!r5) then
 K (ByteArray.mk #[]) false
 else
 (if (!r9) then
 K (ByteArray.mk #[]) false
 else
 xstamp_fill (ByteArray.extract (ByteArray.mk #[(48 : UInt8), (48 : UInt8), (48 : UInt8), (48 : UInt8), (45 : UInt8), (48 : UInt8), (48 : UInt8), (45 : UInt8), (48 : UInt8), (48 : UInt8), (84 : UInt8), (48 : UInt8), (48 : UInt8), (58 : UInt8), (48 : UInt8), (48 : UInt8), (58 : UInt8), (48 : UInt8), (48 : UInt8), (90 : UInt8)]) (0 : Nat) (19 : Nat)) ([Eng.V.c (Value.int IntKind.i64 r2), Eng.V.c (Value.int IntKind.i64 r3), Eng.V.c (Value.int IntKind.i64 r4), Eng.V.c (Value.int IntKind.i64 r6), Eng.V.c (Value.int IntKind.i64 r7), Eng.V.c (Value.int IntKind.i64 r8)]) true false (fun r10 =>
 (if (↑(ByteArray.size r10 + (1 : Nat)) : Int) > 9223372036854775807 then
 False
 else
 (lt (r10 ++ ByteArray.extract (ByteArray.mk #[(48 : UInt8), (48 : UInt8), (48 : UInt8), (48 : UInt8), (45 : UInt8), (48 : UInt8), (48 : UInt8), (45 : UInt8), (48 : UInt8), (48 : UInt8), (84 : UInt8), (48 : UInt8), (48 : UInt8), (58 : UInt8), (48 : UInt8), (48 : UInt8), (58 : UInt8), (48 : UInt8), (48 : UInt8), (90 : UInt8)]) (19 : Nat) (20 : Nat)) fun v11 =>
 K v11 true)))))))
def Xstamp_Text : Tstamp_Text := Ystamp_Text Xday_Date Xstamp_Clock Xstamp_fill
def Jstamp_Text (X : Tstamp_Text) : Inst := mkI 46 pL24 .nil pL50 .nil X
def Istamp_Text : Inst := Jstamp_Text Xstamp_Text
theorem Estamp_Text (xday_Date : Tday_Date) (xstamp_Clock : Tstamp_Clock) (xstamp_fill : Tstamp_fill) : EqF Tryz.prog 45 gives Tryz.f46 [Jday_Date xday_Date, Jstamp_Clock xstamp_Clock, Jstamp_fill xstamp_fill] [] (Jstamp_Text (Ystamp_Text xday_Date xstamp_Clock xstamp_fill)) := fun x y K => by kernel_rfl
theorem Istamp_Text_ok : InstOk Tryz.prog G.1 Istamp_Text := iok (gives := gives) [] (okCons Iday_Date_ok (okCons Istamp_Clock_ok (okCons Istamp_fill_ok okNil))) 45 follows Tryz.func46 (by kernel_rfl) (fun x => by kernel_rfl) (Estamp_Text Xday_Date Xstamp_Clock Xstamp_fill)
abbrev Tposix_Of : Type := Int → Int → (Int → Bool → Prop) → Prop
def Yposix_Of (a0 : Int) (a1 : Int) (K : Int → Bool → Prop) : Prop :=
 (if decide (a0 < (-719162)) then
 K 0 false
 else
 (if decide (a0 > 2932896) then
 K 0 false
 else
 (if decide (a1 < 0) then
 K 0 false
 else
 (if decide (a1 > 86400) then
 K 0 false
 else
 (lt (w64 (w64 (a0 * 86400) + if 86399 < a1 then 86399 else a1)) fun v2 =>
 K v2 true)))))
def Xposix_Of : Tposix_Of := Yposix_Of
def Jposix_Of (X : Tposix_Of) : Inst := mkI 111 pL24 .nil pL25 .nil X
def Iposix_Of : Inst := Jposix_Of Xposix_Of
theorem Eposix_Of : EqF Tryz.prog 25 gives Tryz.f111 [] [] (Jposix_Of (Yposix_Of)) := fun x y K => by kernel_rfl
theorem Iposix_Of_ok : InstOk Tryz.prog G.1 Iposix_Of := iok (gives := gives) [] okNil 25 follows Tryz.func111 (by kernel_rfl) (fun x => by kernel_rfl) (Eposix_Of)
abbrev Tposix_From : Type := (List Eng.V) → Int → (Int → Int → Prop) → Prop
def Yposix_From (xscale_Utc : Tscale_Utc) (xposix_Of : Tposix_Of) (a0 : (List Eng.V)) (a1 : Int) (K : Int → Int → Prop) : Prop :=
 xscale_Utc a0 a1 (fun r2 r3 r4 =>
 (if (r4 == 0) then
 xposix_Of r2 r3 (fun r5 r6 =>
 K r5 r4)
 else
 K 0 r4))
def Xposix_From : Tposix_From := Yposix_From Xscale_Utc Xposix_Of
def Jposix_From (X : Tposix_From) : Inst := mkI 44 pL79 .nil pL24 .nil X
def Iposix_From : Inst := Jposix_From Xposix_From
theorem Eposix_From (xscale_Utc : Tscale_Utc) (xposix_Of : Tposix_Of) : EqF Tryz.prog 25 gives Tryz.f44 [Jscale_Utc xscale_Utc, Jposix_Of xposix_Of] [] (Jposix_From (Yposix_From xscale_Utc xposix_Of)) := fun x y K => by kernel_rfl
theorem Iposix_From_ok : InstOk Tryz.prog G.1 Iposix_From := iok (gives := gives) [] (okCons Iscale_Utc_ok (okCons Iposix_Of_ok okNil)) 25 follows Tryz.func44 (by kernel_rfl) (fun x => by kernel_rfl) (Eposix_From Xscale_Utc Xposix_Of)
abbrev Tstamp_Day : Type := Int → (ByteArray → Bool → Prop) → Prop
def Ystamp_Day (xday_Date : Tday_Date) (xstamp_fill : Tstamp_fill) (a0 : Int) (K : ByteArray → Bool → Prop) : Prop :=
 xday_Date a0 (fun r1 r2 r3 r4 =>
 (if (!r4) then
 K (ByteArray.mk #[]) false
 else
 xstamp_fill (ByteArray.extract (ByteArray.mk #[(48 : UInt8), (48 : UInt8), (48 : UInt8), (48 : UInt8), (45 : UInt8), (48 : UInt8), (48 : UInt8), (45 : UInt8), (48 : UInt8), (48 : UInt8), (84 : UInt8), (48 : UInt8), (48 : UInt8), (58 : UInt8), (48 : UInt8), (48 : UInt8), (58 : UInt8), (48 : UInt8), (48 : UInt8), (90 : UInt8)]) (0 : Nat) (10 : Nat)) ([Eng.V.c (Value.int IntKind.i64 r1), Eng.V.c (Value.int IntKind.i64 r2), Eng.V.c (Value.int IntKind.i64 r3)]) true false (fun r5 =>
 K r5 true)))
def Xstamp_Day : Tstamp_Day := Ystamp_Day Xday_Date Xstamp_fill
def Jstamp_Day (X : Tstamp_Day) : Inst := mkI 88 pL6 .nil pL50 .nil X
def Istamp_Day : Inst := Jstamp_Day Xstamp_Day
theorem Estamp_Day (xday_Date : Tday_Date) (xstamp_fill : Tstamp_fill) : EqF Tryz.prog 23 gives Tryz.f88 [Jday_Date xday_Date, Jstamp_fill xstamp_fill] [] (Jstamp_Day (Ystamp_Day xday_Date xstamp_fill)) := fun x y K => by kernel_rfl
theorem Istamp_Day_ok : InstOk Tryz.prog G.1 Istamp_Day := iok (gives := gives) [] (okCons Iday_Date_ok (okCons Istamp_fill_ok okNil)) 23 follows Tryz.func88 (by kernel_rfl) (fun x => by kernel_rfl) (Estamp_Day Xday_Date Xstamp_fill)
abbrev Tlocal_within : Type := Int → Int → (Bool → Prop) → Prop
def Ylocal_within (a0 : Int) (a1 : Int) (K : Bool → Prop) : Prop :=
 (if decide (a0 ≥ 0) then
 K (decide (a0 ≤ a1))
 else
 K false)
def Xlocal_within : Tlocal_within := Ylocal_within
def Jlocal_within (X : Tlocal_within) : Inst := mkI 89 pL24 .nil pL1 .nil X
def Ilocal_within : Inst := Jlocal_within Xlocal_within
theorem Elocal_within : EqF Tryz.prog 12 gives Tryz.f89 [] [] (Jlocal_within (Ylocal_within)) := fun x y K => by kernel_rfl
theorem Ilocal_within_ok : InstOk Tryz.prog G.1 Ilocal_within := iok (gives := gives) [] okNil 12 follows Tryz.func89 (by kernel_rfl) (fun x => by kernel_rfl) (Elocal_within)
abbrev Tlocal_pair : Type := Int → (ByteArray → Prop) → Prop
def Ylocal_pair (xitoa : Titoa) (a0 : Int) (K : ByteArray → Prop) : Prop :=
 xitoa (w64 (Int.tdiv a0 10)) (fun r1 =>
 xitoa (Int.tmod a0 10) (fun r2 =>
 (if (↑(ByteArray.size r1 + ByteArray.size r2) : Int) > 9223372036854775807 then
 False
 else
 K (r1 ++ r2))))
def Xlocal_pair : Tlocal_pair := Ylocal_pair Xitoa
def Jlocal_pair (X : Tlocal_pair) : Inst := mkI 91 pL6 .nil pL8 .nil X
def Ilocal_pair : Inst := Jlocal_pair Xlocal_pair
theorem Elocal_pair (xitoa : Titoa) : EqF Tryz.prog 10 gives Tryz.f91 [Jitoa xitoa] [] (Jlocal_pair (Ylocal_pair xitoa)) := fun x y K => by kernel_rfl
theorem Ilocal_pair_ok : InstOk Tryz.prog G.1 Ilocal_pair := iok (gives := gives) [] (okCons Iitoa_ok okNil) 10 follows Tryz.func91 (by kernel_rfl) (fun x => by kernel_rfl) (Elocal_pair Xitoa)
abbrev Tlocal_distance : Type := Int → (ByteArray → Prop) → Prop
def Ylocal_distance (xlocal_pair : Tlocal_pair) (a0 : Int) (K : ByteArray → Prop) : Prop :=
 (if decide (a0 < 0) then
 (lt (w64 (Int.tdiv (w64 (0 - a0)) 3600)) fun v1 =>
 xlocal_pair v1 (fun r2 =>
 (if (↑(ByteArray.size r2 + (1 : Nat)) : Int) > 9223372036854775807 then
 False
 else
 (lt (w64 (Int.tdiv (w64 (0 - a0)) 60)) fun v3 =>
 xlocal_pair (Int.tmod v3 60) (fun r4 =>
 (if (↑(ByteArray.size (r2 ++ ByteArray.mk #[(58 : UInt8)]) + ByteArray.size r4) : Int) > 9223372036854775807 then
 False
 else
 (lt (r2 ++ ByteArray.mk #[(58 : UInt8)] ++ r4) fun v5 =>
 (if (↑((1 : Nat) + ByteArray.size v5) : Int) > 9223372036854775807 then
 False
 else
 (if (Int.tmod (w64 (0 - a0)) (60 :Int) != 0) then
 xlocal_pair (Int.tmod (w64 (0 - a0)) 60) (fun r6 =>
 (if (↑((1 : Nat) + ByteArray.size r6) : Int) > 9223372036854775807 then
 False
 else
 (if (↑(ByteArray.size (ByteArray.mk #[(45 : UInt8)] ++ v5) + ByteArray.size (ByteArray.mk #[(58 : UInt8)] ++ r6)) : Int) > 9223372036854775807 then
 False
 else
 (lt (ByteArray.mk #[(45 : UInt8)] ++ v5 ++ (ByteArray.mk #[(58 : UInt8)] ++ r6)) fun v7 =>
 K v7))))
 else
 K (ByteArray.mk #[(45 : UInt8)] ++ v5))))))))))
 else
 xlocal_pair (w64 (Int.tdiv a0 3600)) (fun r8 =>
 (if (↑(ByteArray.size r8 + (1 : Nat)) : Int) > 9223372036854775807 then
 False
 else
 xlocal_pair (Int.tmod (w64 (Int.tdiv a0 60)) 60) (fun r9 =>
 (if (↑(ByteArray.size (r8 ++ ByteArray.mk #[(58 : UInt8)]) + ByteArray.size r9) : Int) > 9223372036854775807 then
 False
 else
 (lt (r8 ++ ByteArray.mk #[(58 : UInt8)] ++ r9) fun v10 =>
 (if (↑((1 : Nat) + ByteArray.size v10) : Int) > 9223372036854775807 then
 False
 else
 (if (Int.tmod a0 (60 :Int) != 0) then
 xlocal_pair (Int.tmod a0 60) (fun r11 =>
 (if (↑((1 : Nat) + ByteArray.size r11) : Int) > 9223372036854775807 then
 False
 else
 (if (↑(ByteArray.size (ByteArray.mk #[(43 : UInt8)] ++ v10) + ByteArray.size (ByteArray.mk #[(58 : UInt8)] ++ r11)) : Int) > 9223372036854775807 then
 False
 else
 (lt (ByteArray.mk #[(43 : UInt8)] ++ v10 ++ (ByteArray.mk #[(58 : UInt8)] ++ r11)) fun v12 =>
 K v12))))
 else
 K (ByteArray.mk #[(43 : UInt8)] ++ v10)))))))))
def Xlocal_distance : Tlocal_distance := Ylocal_distance Xlocal_pair
def Jlocal_distance (X : Tlocal_distance) : Inst := mkI 92 pL6 .nil pL8 .nil X
def Ilocal_distance : Inst := Jlocal_distance Xlocal_distance
theorem Elocal_distance (xlocal_pair : Tlocal_pair) : EqF Tryz.prog 29 gives Tryz.f92 [Jlocal_pair xlocal_pair] [] (Jlocal_distance (Ylocal_distance xlocal_pair)) := fun x y K => by kernel_rfl
theorem Ilocal_distance_ok : InstOk Tryz.prog G.1 Ilocal_distance := iok (gives := gives) [] (okCons Ilocal_pair_ok okNil) 29 follows Tryz.func92 (by kernel_rfl) (fun x => by kernel_rfl) (Elocal_distance Xlocal_pair)
abbrev Tlocal_Text : Type := Q112 → (ByteArray → Bool → Prop) → Prop
def Ylocal_Text (xstamp_Day : Tstamp_Day) (xlocal_within : Tlocal_within) (xabbr_Right : Tabbr_Right) (xlocal_pair : Tlocal_pair) (xlocal_distance : Tlocal_distance) (a0 : Q112) (K : ByteArray → Bool → Prop) : Prop :=
 xstamp_Day a0.1 (fun r1 r2 =>
 xlocal_within a0.2.1 23 (fun r3 =>
 (if r3 then
 xlocal_within a0.2.2.1 59 (fun r4 =>
 (if r4 then
 xlocal_within a0.2.2.2.1 60 (fun r5 =>
 (if (!r2) then
 K (ByteArray.mk #[]) false
 else
 (if (!r5) then
 K (ByteArray.mk #[]) false
 else
 (if decide (a0.2.2.2.2.1 < (-89999)) then
 K (ByteArray.mk #[]) false
 else
 (if decide (a0.2.2.2.2.1 > 93599) then
 K (ByteArray.mk #[]) false
 else
 xabbr_Right a0.2.2.2.2.2.2.1 (fun r6 =>
 (if (!r6) then
 K (ByteArray.mk #[]) false
 else
 (if (↑(ByteArray.size r1 + (1 : Nat)) : Int) > 9223372036854775807 then
 False
 else
 xlocal_pair a0.2.1 (fun r7 =>
 (if (↑(ByteArray.size (r1 ++ ByteArray.mk #[(84 : UInt8)]) + ByteArray.size r7) : Int) > 9223372036854775807 then
 False
 else
 (lt (r1 ++ ByteArray.mk #[(84 : UInt8)] ++ r7) fun v8 =>
 (if (↑(ByteArray.size v8 + (1 : Nat)) : Int) > 9223372036854775807 then
 False
 else
 xlocal_pair a0.2.2.1 (fun r9 =>
 (if (↑(ByteArray.size (v8 ++ ByteArray.mk #[(58 : UInt8)]) + ByteArray.size r9) : Int) > 9223372036854775807 then
 False
 else
 (lt (v8 ++ ByteArray.mk #[(58 : UInt8)] ++ r9) fun v10 =>
 (if (↑(ByteArray.size v10 + (1 : Nat)) : Int) > 9223372036854775807 then
 False
 else
 xlocal_pair a0.2.2.2.1 (fun r11 =>
 (if (↑(ByteArray.size (v10 ++ ByteArray.mk #[(58 : UInt8)]) + ByteArray.size r11) : Int) > 9223372036854775807 then
 False
 else
 (lt (v10 ++ ByteArray.mk #[(58 : UInt8)] ++ r11) fun v12 =>
 xlocal_distance a0.2.2.2.2.1 (fun r13 =>
 (if (↑(ByteArray.size v12 + ByteArray.size r13) : Int) > 9223372036854775807 then
 False
 else
 (if (↑(ByteArray.size (v12 ++ r13) + (1 : Nat)) : Int) > 9223372036854775807 then
 False
 else
 (lt (v12 ++ r13 ++ ByteArray.mk #[(32 : UInt8)]) fun v14 =>
 (if (↑(ByteArray.size v14 + ByteArray.size a0.2.2.2.2.2.2.1) : Int) > 9223372036854775807 then
 False
 else
 K (v14 ++ a0.2.2.2.2.2.2.1) true))))))))))))))))))))))))
 else
 (if (!r2) then
 K (ByteArray.mk #[]) false
 else
 K (ByteArray.mk #[]) false)))
 else
 (if (!r2) then
 K (ByteArray.mk #[]) false
 else
 K (ByteArray.mk #[]) false))))
def Xlocal_Text : Tlocal_Text := Ylocal_Text Xstamp_Day Xlocal_within Xabbr_Right Xlocal_pair Xlocal_distance
def Jlocal_Text (X : Tlocal_Text) : Inst := mkI 33 pL113 .nil pL50 .nil X
def Ilocal_Text : Inst := Jlocal_Text Xlocal_Text
theorem Elocal_Text (xstamp_Day : Tstamp_Day) (xlocal_within : Tlocal_within) (xabbr_Right : Tabbr_Right) (xlocal_pair : Tlocal_pair) (xlocal_distance : Tlocal_distance) : EqF Tryz.prog 72 gives Tryz.f33 [Jstamp_Day xstamp_Day, Jlocal_within xlocal_within, Jabbr_Right xabbr_Right, Jlocal_pair xlocal_pair, Jlocal_distance xlocal_distance] [] (Jlocal_Text (Ylocal_Text xstamp_Day xlocal_within xabbr_Right xlocal_pair xlocal_distance)) := fun x y K => by kernel_rfl
theorem Ilocal_Text_ok : InstOk Tryz.prog G.1 Ilocal_Text := iok (gives := gives) [] (okCons Istamp_Day_ok (okCons Ilocal_within_ok (okCons Iabbr_Right_ok (okCons Ilocal_pair_ok (okCons Ilocal_distance_ok okNil))))) 72 follows Tryz.func33 (by kernel_rfl) (fun x => by kernel_rfl) (Elocal_Text Xstamp_Day Xlocal_within Xabbr_Right Xlocal_pair Xlocal_distance)
abbrev Tlocal_read : Type := ByteArray → ByteArray → (Bool → (List Eng.V) → Bool → Bool → Prop) → Prop
def Llocal_read_0 (K : Bool → (List Eng.V) → Bool → Bool → Prop) : (Q114 → Prop) → Q114 → Prop := fun k2 x3 =>
 (if x3.2.1.2 < ByteArray.size x3.2.1.1 then
 (if decide ((↑(x3.2.1.2) : Int) ≥ (↑(ByteArray.size x3.1.2.1) : Int)) then
 K false [] true true
 else
 (if 0 ≤ (↑(x3.2.1.2) : Int) ∧ (↑(x3.2.1.2) : Int) < (↑(ByteArray.size x3.1.2.1) : Int) then
 (if (Eng.bAt x3.1.2.1 (Int.toNat (↑(x3.2.1.2) : Int)) != 48) then
 (if 0 ≤ (↑(x3.2.1.2) : Int) ∧ (↑(x3.2.1.2) : Int) < (↑(ByteArray.size x3.1.2.1) : Int) then
 (if ((↑(Prod.fst (Go.Utf8.decode x3.2.1.1 x3.2.1.2)) : Int) != wi32 (Eng.bAt x3.1.2.1 (Int.toNat (↑(x3.2.1.2) : Int)))) then
 (if ((↑(Prod.fst (Go.Utf8.decode x3.2.1.1 x3.2.1.2)) : Int) != wi32 (Eng.bAt x3.1.2.1 (Int.toNat (↑(x3.2.1.2) : Int)))) then
 K false [] true true
 else
 (if 0 ≤ (↑(x3.2.1.2) : Int) ∧ (↑(x3.2.1.2) : Int) < (↑(ByteArray.size x3.1.2.1) : Int) then
 (if (Eng.bAt x3.1.2.1 (Int.toNat (↑(x3.2.1.2) : Int)) != 48) then
 (if Eng.roomOk (List.length x3.2.2.1 + List.length [Eng.V.c (Value.int IntKind.i64 x3.1.2.2.2.2.1)]) (8 : Nat) then
 k2 ((x3.1.1, x3.1.2.1, (), x3.1.2.2.2.1, 0, false, (), ()), (x3.2.1.1, x3.2.1.2 + Prod.snd (Go.Utf8.decode x3.2.1.1 x3.2.1.2)), x3.2.2.1 ++ [Eng.V.c (Value.int IntKind.i64 x3.1.2.2.2.2.1)], ())
 else
 False)
 else
 (lt (w64 (w64 (10 * x3.1.2.2.2.2.1) + w64 (wi32 ((↑(Prod.fst (Go.Utf8.decode x3.2.1.1 x3.2.1.2)) : Int) - 48)))) fun v4 =>
 k2 ((x3.1.1, x3.1.2.1, (), x3.1.2.2.2.1, v4, true, (), ()), (x3.2.1.1, x3.2.1.2 + Prod.snd (Go.Utf8.decode x3.2.1.1 x3.2.1.2)), x3.2.2)))
 else
 False))
 else
 (if 0 ≤ (↑(x3.2.1.2) : Int) ∧ (↑(x3.2.1.2) : Int) < (↑(ByteArray.size x3.1.2.1) : Int) then
 (if (Eng.bAt x3.1.2.1 (Int.toNat (↑(x3.2.1.2) : Int)) == 48) then
 (if decide ((↑(Prod.fst (Go.Utf8.decode x3.2.1.1 x3.2.1.2)) : Int) < 48) then
 K false [] true true
 else
 (if decide ((↑(Prod.fst (Go.Utf8.decode x3.2.1.1 x3.2.1.2)) : Int) > 57) then
 K false [] true true
 else
 (if 0 ≤ (↑(x3.2.1.2) : Int) ∧ (↑(x3.2.1.2) : Int) < (↑(ByteArray.size x3.1.2.1) : Int) then
 (if (Eng.bAt x3.1.2.1 (Int.toNat (↑(x3.2.1.2) : Int)) != 48) then
 (if Eng.roomOk (List.length x3.2.2.1 + List.length [Eng.V.c (Value.int IntKind.i64 x3.1.2.2.2.2.1)]) (8 : Nat) then
 k2 ((x3.1.1, x3.1.2.1, (), x3.1.2.2.2.1, 0, false, (), ()), (x3.2.1.1, x3.2.1.2 + Prod.snd (Go.Utf8.decode x3.2.1.1 x3.2.1.2)), x3.2.2.1 ++ [Eng.V.c (Value.int IntKind.i64 x3.1.2.2.2.2.1)], ())
 else
 False)
 else
 (lt (w64 (w64 (10 * x3.1.2.2.2.2.1) + w64 (wi32 ((↑(Prod.fst (Go.Utf8.decode x3.2.1.1 x3.2.1.2)) : Int) - 48)))) fun v5 =>
 k2 ((x3.1.1, x3.1.2.1, (), x3.1.2.2.2.1, v5, true, (), ()), (x3.2.1.1, x3.2.1.2 + Prod.snd (Go.Utf8.decode x3.2.1.1 x3.2.1.2)), x3.2.2)))
 else
 False)))
 else
 (if 0 ≤ (↑(x3.2.1.2) : Int) ∧ (↑(x3.2.1.2) : Int) < (↑(ByteArray.size x3.1.2.1) : Int) then
 (if (Eng.bAt x3.1.2.1 (Int.toNat (↑(x3.2.1.2) : Int)) != 48) then
 (if Eng.roomOk (List.length x3.2.2.1 + List.length [Eng.V.c (Value.int IntKind.i64 x3.1.2.2.2.2.1)]) (8 : Nat) then
 k2 ((x3.1.1, x3.1.2.1, (), x3.1.2.2.2.1, 0, false, (), ()), (x3.2.1.1, x3.2.1.2 + Prod.snd (Go.Utf8.decode x3.2.1.1 x3.2.1.2)), x3.2.2.1 ++ [Eng.V.c (Value.int IntKind.i64 x3.1.2.2.2.2.1)], ())
 else
 False)
 else
 (lt (w64 (w64 (10 * x3.1.2.2.2.2.1) + w64 (wi32 ((↑(Prod.fst (Go.Utf8.decode x3.2.1.1 x3.2.1.2)) : Int) - 48)))) fun v6 =>
 k2 ((x3.1.1, x3.1.2.1, (), x3.1.2.2.2.1, v6, true, (), ()), (x3.2.1.1, x3.2.1.2 + Prod.snd (Go.Utf8.decode x3.2.1.1 x3.2.1.2)), x3.2.2)))
 else
 False))
 else
 False))
 else
 False)
 else
 (if 0 ≤ (↑(x3.2.1.2) : Int) ∧ (↑(x3.2.1.2) : Int) < (↑(ByteArray.size x3.1.2.1) : Int) then
 (if (Eng.bAt x3.1.2.1 (Int.toNat (↑(x3.2.1.2) : Int)) == 48) then
 (if decide ((↑(Prod.fst (Go.Utf8.decode x3.2.1.1 x3.2.1.2)) : Int) < 48) then
 K false [] true true
 else
 (if decide ((↑(Prod.fst (Go.Utf8.decode x3.2.1.1 x3.2.1.2)) : Int) > 57) then
 K false [] true true
 else
 (if 0 ≤ (↑(x3.2.1.2) : Int) ∧ (↑(x3.2.1.2) : Int) < (↑(ByteArray.size x3.1.2.1) : Int) then
 (if (Eng.bAt x3.1.2.1 (Int.toNat (↑(x3.2.1.2) : Int)) != 48) then
 (if Eng.roomOk (List.length x3.2.2.1 + List.length [Eng.V.c (Value.int IntKind.i64 x3.1.2.2.2.2.1)]) (8 : Nat) then
 k2 ((x3.1.1, x3.1.2.1, (), x3.1.2.2.2.1, 0, false, (), ()), (x3.2.1.1, x3.2.1.2 + Prod.snd (Go.Utf8.decode x3.2.1.1 x3.2.1.2)), x3.2.2.1 ++ [Eng.V.c (Value.int IntKind.i64 x3.1.2.2.2.2.1)], ())
 else
 False)
 else
 (lt (w64 (w64 (10 * x3.1.2.2.2.2.1) + w64 (wi32 ((↑(Prod.fst (Go.Utf8.decode x3.2.1.1 x3.2.1.2)) : Int) - 48)))) fun v7 =>
 k2 ((x3.1.1, x3.1.2.1, (), x3.1.2.2.2.1, v7, true, (), ()), (x3.2.1.1, x3.2.1.2 + Prod.snd (Go.Utf8.decode x3.2.1.1 x3.2.1.2)), x3.2.2)))
 else
 False)))
 else
 (if 0 ≤ (↑(x3.2.1.2) : Int) ∧ (↑(x3.2.1.2) : Int) < (↑(ByteArray.size x3.1.2.1) : Int) then
 (if (Eng.bAt x3.1.2.1 (Int.toNat (↑(x3.2.1.2) : Int)) != 48) then
 (if Eng.roomOk (List.length x3.2.2.1 + List.length [Eng.V.c (Value.int IntKind.i64 x3.1.2.2.2.2.1)]) (8 : Nat) then
 k2 ((x3.1.1, x3.1.2.1, (), x3.1.2.2.2.1, 0, false, (), ()), (x3.2.1.1, x3.2.1.2 + Prod.snd (Go.Utf8.decode x3.2.1.1 x3.2.1.2)), x3.2.2.1 ++ [Eng.V.c (Value.int IntKind.i64 x3.1.2.2.2.2.1)], ())
 else
 False)
 else
 (lt (w64 (w64 (10 * x3.1.2.2.2.2.1) + w64 (wi32 ((↑(Prod.fst (Go.Utf8.decode x3.2.1.1 x3.2.1.2)) : Int) - 48)))) fun v8 =>
 k2 ((x3.1.1, x3.1.2.1, (), x3.1.2.2.2.1, v8, true, (), ()), (x3.2.1.1, x3.2.1.2 + Prod.snd (Go.Utf8.decode x3.2.1.1 x3.2.1.2)), x3.2.2)))
 else
 False))
 else
 False))
 else
 False))
 else
 (if Eng.roomOk (List.length x3.2.2.1 + List.length [Eng.V.c (Value.int IntKind.i64 x3.1.2.2.2.2.1)]) (8 : Nat) then
 (if x3.1.2.2.2.2.2.1 then
 K ((↑(ByteArray.size x3.1.1) : Int) == (↑(ByteArray.size x3.1.2.1) : Int)) (x3.2.2.1 ++ [Eng.V.c (Value.int IntKind.i64 x3.1.2.2.2.2.1)]) true false
 else
 K false (x3.2.2.1 ++ [Eng.V.c (Value.int IntKind.i64 x3.1.2.2.2.2.1)]) true false)
 else
 False))
def Llocal_read_0p : Lp := ⟨2291, [.trim 2291, .fat 4 1 1232, .trim 2291], pT115, pH116, 0⟩
def Ylocal_read (a0 : ByteArray) (a1 : ByteArray) (K : Bool → (List Eng.V) → Bool → Bool → Prop) : Prop :=
 lp (Llocal_read_0 K) ((a0, a1, (), false, 0, false, (), ()), (a0, (0 : Nat)), [], ())
def Xlocal_read : Tlocal_read := Ylocal_read
def Jlocal_read (X : Tlocal_read) : Inst := mkI 97 pL49 .nil pL117 pH14 X
def Ilocal_read : Inst := Jlocal_read Xlocal_read
theorem Elocal_read : EqF Tryz.prog 73 gives Tryz.f97 [] [Llocal_read_0p] (Jlocal_read (Ylocal_read)) := fun x y K => by kernel_rfl
theorem Ilocal_read_ok : InstOk Tryz.prog G.1 Ilocal_read := iok (gives := gives) [Llocal_read_0p] okNil 73 follows Tryz.func97 (by kernel_rfl) (fun x => by kernel_rfl) (Elocal_read)
abbrev Tlocal_away : Type := ByteArray → (Int → Bool → Prop) → Prop
def Llocal_away_0 (xlocal_distance : Tlocal_distance) (K : Int → Bool → Prop) : (Q118 → Prop) → Q118 → Prop := fun k5 x6 =>
 (if decide (x6.1.2.2.2.2.2.1 < x6.1.2.2.2.2.1) then
 (if 0 ≤ x6.1.2.2.2.2.2.1 ∧ x6.1.2.2.2.2.2.1 < (↑(List.length x6.2.1.1) : Int) then
 (Eng.asInt IntKind.i64 (Eng.getC x6.2.1.1 (Int.toNat x6.1.2.2.2.2.2.1) (0 : Nat)) False fun n7 =>
 (if 0 ≤ x6.1.2.2.2.2.2.1 ∧ x6.1.2.2.2.2.2.1 < 3 then
 (Eng.asInt IntKind.i64 ([Eng.V.c (Value.int IntKind.i64 3600), Eng.V.c (Value.int IntKind.i64 60), Eng.V.c (Value.int IntKind.i64 1)][Int.toNat x6.1.2.2.2.2.2.1 * (1 : Nat)]?) False fun n8 =>
 (lt (w64 (x6.1.2.1 + w64 (n7 * n8))) fun v9 =>
 k5 ((x6.1.1, v9, x6.1.2.2.1, (), x6.1.2.2.2.2.1, w64 (x6.1.2.2.2.2.2.1 + 1), ()), x6.2)))
 else
 False))
 else
 False)
 else
 (if (0 :Int) ≤ 0 ∧ 0 < (↑(ByteArray.size x6.1.1) : Int) then
 (if (Eng.bAt x6.1.1 (0 : Nat) == 45) then
 xlocal_distance (w64 (0 - x6.1.2.1)) (fun r10 =>
 K (w64 (0 - x6.1.2.1)) (ByteArray.toList r10 == ByteArray.toList x6.1.1))
 else
 xlocal_distance x6.1.2.1 (fun r11 =>
 K x6.1.2.1 (ByteArray.toList r11 == ByteArray.toList x6.1.1)))
 else
 False))
def Llocal_away_0p : Lp := ⟨120259084301, [.trim 120259084301], pT119, pH120, 0⟩
def Ylocal_away (xlocal_read : Tlocal_read) (xlocal_distance : Tlocal_distance) (a0 : ByteArray) (K : Int → Bool → Prop) : Prop :=
 (if (ByteArray.toList a0 == ByteArray.toList (ByteArray.mk #[])) then
 K 0 false
 else
 (if (0 :Int) ≤ 0 ∧ 0 < (↑(ByteArray.size a0) : Int) then
 (if (Eng.bAt a0 (0 : Nat) != 43) then
 (if (0 :Int) ≤ 0 ∧ 0 < (↑(ByteArray.size a0) : Int) then
 (if (Eng.bAt a0 (0 : Nat) != 45) then
 K 0 false
 else
 (if decide ((↑(ByteArray.size a0) : Int) > 6) then
 (if 0 ≤ (↑(ByteArray.size a0) : Int) ∧ (↑(ByteArray.size a0) : Int) ≤ (↑(ByteArray.size a0) : Int) then
 (if (0 :Int) ≤ 1 ∧ 1 ≤ (↑(ByteArray.size a0) : Int) then
 xlocal_read (ByteArray.extract a0 (1 : Nat) (Int.toNat (↑(ByteArray.size a0) : Int))) (ByteArray.mk #[(48 : UInt8), (48 : UInt8), (58 : UInt8), (48 : UInt8), (48 : UInt8)] ++ ByteArray.mk #[(58 : UInt8), (48 : UInt8), (48 : UInt8)]) (fun r1 r2 r3 r4 =>
 (if (!r1) then
 K 0 false
 else
 lp (Llocal_away_0 xlocal_distance K) ((a0, 0, r1, (), (↑(List.length r2) : Int), 0, ()), (r2, r3, r4), ())))
 else
 False)
 else
 False)
 else
 (if 0 ≤ (↑(ByteArray.size a0) : Int) ∧ (↑(ByteArray.size a0) : Int) ≤ (↑(ByteArray.size a0) : Int) then
 (if (0 :Int) ≤ 1 ∧ 1 ≤ (↑(ByteArray.size a0) : Int) then
 xlocal_read (ByteArray.extract a0 (1 : Nat) (Int.toNat (↑(ByteArray.size a0) : Int))) (ByteArray.mk #[(48 : UInt8), (48 : UInt8), (58 : UInt8), (48 : UInt8), (48 : UInt8)]) (fun r12 r13 r14 r15 =>
 (if (!r12) then
 K 0 false
 else
 lp (Llocal_away_0 xlocal_distance K) ((a0, 0, r12, (), (↑(List.length r13) : Int), 0, ()), (r13, r14, r15), ())))
 else
 False)
 else
 False)))
 else
 False)
 else
 (if decide ((↑(ByteArray.size a0) : Int) > 6) then
 (if 0 ≤ (↑(ByteArray.size a0) : Int) ∧ (↑(ByteArray.size a0) : Int) ≤ (↑(ByteArray.size a0) : Int) then
 (if (0 :Int) ≤ 1 ∧ 1 ≤ (↑(ByteArray.size a0) : Int) then
 xlocal_read (ByteArray.extract a0 (1 : Nat) (Int.toNat (↑(ByteArray.size a0) : Int))) (ByteArray.mk #[(48 : UInt8), (48 : UInt8), (58 : UInt8), (48 : UInt8), (48 : UInt8)] ++ ByteArray.mk #[(58 : UInt8), (48 : UInt8), (48 : UInt8)]) (fun r23 r24 r25 r26 =>
 (if (!r23) then
 K 0 false
 else
 lp (Llocal_away_0 xlocal_distance K) ((a0, 0, r23, (), (↑(List.length r24) : Int), 0, ()), (r24, r25, r26), ())))
 else
 False)
 else
 False)
 else
 (if 0 ≤ (↑(ByteArray.size a0) : Int) ∧ (↑(ByteArray.size a0) : Int) ≤ (↑(ByteArray.size a0) : Int) then
 (if (0 :Int) ≤ 1 ∧ 1 ≤ (↑(ByteArray.size a0) : Int) then
 xlocal_read (ByteArray.extract a0 (1 : Nat) (Int.toNat (↑(ByteArray.size a0) : Int))) (ByteArray.mk #[(48 : UInt8), (48 : UInt8), (58 : UInt8), (48 : UInt8), (48 : UInt8)]) (fun r34 r35 r36 r37 =>
 (if (!r34) then
 K 0 false
 else
 lp (Llocal_away_0 xlocal_distance K) ((a0, 0, r34, (), (↑(List.length r35) : Int), 0, ()), (r35, r36, r37), ())))
 else
 False)
 else
 False)))
 else
 False))
def Xlocal_away : Tlocal_away := Ylocal_away Xlocal_read Xlocal_distance
def Jlocal_away (X : Tlocal_away) : Inst := mkI 98 pL8 .nil pL25 .nil X
def Ilocal_away : Inst := Jlocal_away Xlocal_away
theorem Elocal_away (xlocal_read : Tlocal_read) (xlocal_distance : Tlocal_distance) : EqF Tryz.prog 59 gives Tryz.f98 [Jlocal_read xlocal_read, Jlocal_distance xlocal_distance] [Llocal_away_0p] (Jlocal_away (Ylocal_away xlocal_read xlocal_distance)) := fun x y K => by kernel_rfl
theorem Ilocal_away_ok : InstOk Tryz.prog G.1 Ilocal_away := iok (gives := gives) [Llocal_away_0p] (okCons Ilocal_read_ok (okCons Ilocal_distance_ok okNil)) 59 follows Tryz.func98 (by kernel_rfl) (fun x => by kernel_rfl) (Elocal_away Xlocal_read Xlocal_distance)
abbrev Tlocal_Parse : Type := ByteArray → (Q112 → Bool → Prop) → Prop
def Ylocal_Parse (xstrings_Cut : Tstrings_Cut) (xlocal_read : Tlocal_read) (xlocal_away : Tlocal_away) (xday_Number : Tday_Number) (xlocal_Text : Tlocal_Text) (a0 : ByteArray) (K : Q112 → Bool → Prop) : Prop :=
 xstrings_Cut a0 (ByteArray.mk #[(32 : UInt8)]) (fun r1 r2 r3 =>
 (if decide ((↑(ByteArray.size r1) : Int) < 19) then
 K (0, 0, 0, 0, 0, false, ByteArray.mk #[], ()) false
 else
 (if (0 :Int) ≤ 19 ∧ 19 ≤ (↑(ByteArray.size r1) : Int) then
 xlocal_read (ByteArray.extract r1 (0 : Nat) (19 : Nat)) (ByteArray.mk #[(48 : UInt8), (48 : UInt8), (48 : UInt8), (48 : UInt8), (45 : UInt8), (48 : UInt8), (48 : UInt8), (45 : UInt8), (48 : UInt8), (48 : UInt8), (84 : UInt8), (48 : UInt8), (48 : UInt8), (58 : UInt8), (48 : UInt8), (48 : UInt8), (58 : UInt8), (48 : UInt8), (48 : UInt8)]) (fun r4 r5 r6 r7 =>
 (if 0 ≤ (↑(ByteArray.size r1) : Int) ∧ (↑(ByteArray.size r1) : Int) ≤ (↑(ByteArray.size r1) : Int) then
 (if (0 :Int) ≤ 19 ∧ 19 ≤ (↑(ByteArray.size r1) : Int) then
 xlocal_away (ByteArray.extract r1 (19 : Nat) (Int.toNat (↑(ByteArray.size r1) : Int))) (fun r8 r9 =>
 (if (!r4) then
 K (0, 0, 0, 0, 0, false, ByteArray.mk #[], ()) false
 else
 (if (!r9) then
 K (0, 0, 0, 0, 0, false, ByteArray.mk #[], ()) false
 else
 (if (0 :Int) ≤ 0 ∧ 0 < (↑(List.length r5) : Int) then
 (Eng.asInt IntKind.i64 (Eng.getC r5 (0 : Nat) (0 : Nat)) False fun n10 =>
 (if (0 :Int) ≤ 1 ∧ 1 < (↑(List.length r5) : Int) then
 (Eng.asInt IntKind.i64 (Eng.getC r5 (1 : Nat) (0 : Nat)) False fun n11 =>
 (if (0 :Int) ≤ 2 ∧ 2 < (↑(List.length r5) : Int) then
 (Eng.asInt IntKind.i64 (Eng.getC r5 (2 : Nat) (0 : Nat)) False fun n12 =>
 xday_Number n10 n11 n12 (fun r13 r14 =>
 (if (0 :Int) ≤ 3 ∧ 3 < (↑(List.length r5) : Int) then
 (Eng.asInt IntKind.i64 (Eng.getC r5 (3 : Nat) (0 : Nat)) False fun n15 =>
 (if (0 :Int) ≤ 4 ∧ 4 < (↑(List.length r5) : Int) then
 (Eng.asInt IntKind.i64 (Eng.getC r5 (4 : Nat) (0 : Nat)) False fun n16 =>
 (if (0 :Int) ≤ 5 ∧ 5 < (↑(List.length r5) : Int) then
 (Eng.asInt IntKind.i64 (Eng.getC r5 (5 : Nat) (0 : Nat)) False fun n17 =>
 xlocal_Text (r13, n15, n16, n17, r8, false, r2, ()) (fun r18 r19 =>
 (if (!r14) then
 K (0, 0, 0, 0, 0, false, ByteArray.mk #[], ()) false
 else
 (if (!r19) then
 K (0, 0, 0, 0, 0, false, ByteArray.mk #[], ()) false
 else
 K (r13, n15, n16, n17, r8, false, r2, ()) true))))
 else
 False))
 else
 False))
 else
 False)))
 else
 False))
 else
 False))
 else
 False))))
 else
 False)
 else
 False))
 else
 False)))
def Xlocal_Parse : Tlocal_Parse := Ylocal_Parse Xstrings_Cut Xlocal_read Xlocal_away Xday_Number Xlocal_Text
def Jlocal_Parse (X : Tlocal_Parse) : Inst := mkI 35 pL8 .nil pL121 .nil X
def Ilocal_Parse : Inst := Jlocal_Parse Xlocal_Parse
theorem Elocal_Parse (xstrings_Cut : Tstrings_Cut) (xlocal_read : Tlocal_read) (xlocal_away : Tlocal_away) (xday_Number : Tday_Number) (xlocal_Text : Tlocal_Text) : EqF Tryz.prog 82 gives Tryz.f35 [Jstrings_Cut xstrings_Cut, Jlocal_read xlocal_read, Jlocal_away xlocal_away, Jday_Number xday_Number, Jlocal_Text xlocal_Text] [] (Jlocal_Parse (Ylocal_Parse xstrings_Cut xlocal_read xlocal_away xday_Number xlocal_Text)) := fun x y K => by kernel_rfl
theorem Ilocal_Parse_ok : InstOk Tryz.prog G.1 Ilocal_Parse := iok (gives := gives) [] (okCons Istrings_Cut_ok (okCons Ilocal_read_ok (okCons Ilocal_away_ok (okCons Iday_Number_ok (okCons Ilocal_Text_ok okNil))))) 82 follows Tryz.func35 (by kernel_rfl) (fun x => by kernel_rfl) (Elocal_Parse Xstrings_Cut Xlocal_read Xlocal_away Xday_Number Xlocal_Text)
abbrev Tlocal_Known : Type := Q15 → (Bool → Prop) → Prop
def Ylocal_Known (xzone_Right : Tzone_Right) (xscale_Known : Tscale_Known) (a0 : Q15) (K : Bool → Prop) : Prop :=
 xzone_Right a0 (fun r1 =>
 (if r1 then
 xscale_Known a0.2.2.1 (fun r2 =>
 K r2)
 else
 K false))
def Xlocal_Known : Tlocal_Known := Ylocal_Known Xzone_Right Xscale_Known
def Jlocal_Known (X : Tlocal_Known) : Inst := mkI 41 pL19 .nil pL1 .nil X
def Ilocal_Known : Inst := Jlocal_Known Xlocal_Known
theorem Elocal_Known (xzone_Right : Tzone_Right) (xscale_Known : Tscale_Known) : EqF Tryz.prog 10 gives Tryz.f41 [Jzone_Right xzone_Right, Jscale_Known xscale_Known] [] (Jlocal_Known (Ylocal_Known xzone_Right xscale_Known)) := fun x y K => by kernel_rfl
theorem Ilocal_Known_ok : InstOk Tryz.prog G.1 Ilocal_Known := iok (gives := gives) [] (okCons Izone_Right_ok (okCons Iscale_Known_ok okNil)) 10 follows Tryz.func41 (by kernel_rfl) (fun x => by kernel_rfl) (Elocal_Known Xzone_Right Xscale_Known)
abbrev Tposix_Day : Type := Int → (Int → Int → Prop) → Prop
def Yposix_Day (xnum_Div : Tnum_Div) (a0 : Int) (K : Int → Int → Prop) : Prop :=
 xnum_Div a0 86400 (fun r1 r2 r3 =>
 K r1 r2)
def Xposix_Day : Tposix_Day := Yposix_Day Xnum_Div
def Jposix_Day (X : Tposix_Day) : Inst := mkI 81 pL6 .nil pL24 .nil X
def Iposix_Day : Inst := Jposix_Day Xposix_Day
theorem Eposix_Day (xnum_Div : Tnum_Div) : EqF Tryz.prog 12 gives Tryz.f81 [Jnum_Div xnum_Div] [] (Jposix_Day (Yposix_Day xnum_Div)) := fun x y K => by kernel_rfl
theorem Iposix_Day_ok : InstOk Tryz.prog G.1 Iposix_Day := iok (gives := gives) [] (okCons Inum_Div_ok okNil) 12 follows Tryz.func81 (by kernel_rfl) (fun x => by kernel_rfl) (Eposix_Day Xnum_Div)
abbrev Tlocal_Civil : Type := Q15 → Int → (Q112 → Int → Prop) → Prop
def Ylocal_Civil (xlocal_Known : Tlocal_Known) (xscale_Utc : Tscale_Utc) (xposix_From : Tposix_From) (xzone_Lookup : Tzone_Lookup) (xposix_Day : Tposix_Day) (xday_Date : Tday_Date) (xstamp_Clock : Tstamp_Clock) (a0 : Q15) (a1 : Int) (K : Q112 → Int → Prop) : Prop :=
 xlocal_Known a0 (fun r2 =>
 (if (!r2) then
 K (0, 0, 0, 0, 0, false, ByteArray.mk #[], ()) 1
 else
 xscale_Utc a0.2.2.1 a1 (fun r3 r4 r5 =>
 (if (r5 != 0) then
 K (0, 0, 0, 0, 0, false, ByteArray.mk #[], ()) r5
 else
 xposix_From a0.2.2.1 a1 (fun r6 r7 =>
 xzone_Lookup a0 (w64 (a1 + 63072000)) (fun r8 =>
 xposix_Day (w64 (r6 + r8.1)) (fun r9 r10 =>
 xday_Date r9 (fun r11 r12 r13 r14 =>
 (if (!r14) then
 K (0, 0, 0, 0, 0, false, ByteArray.mk #[], ()) 9
 else
 xstamp_Clock r10 (fun r15 r16 r17 r18 =>
 (if (r4 == 86400) then
 K (r9, r15, r16, w64 (r17 + 1), r8) 0
 else
 K (r9, r15, r16, r17, r8) 0)))))))))))
def Xlocal_Civil : Tlocal_Civil := Ylocal_Civil Xlocal_Known Xscale_Utc Xposix_From Xzone_Lookup Xposix_Day Xday_Date Xstamp_Clock
def Jlocal_Civil (X : Tlocal_Civil) : Inst := mkI 31 pL72 .nil pL122 .nil X
def Ilocal_Civil : Inst := Jlocal_Civil Xlocal_Civil
theorem Elocal_Civil (xlocal_Known : Tlocal_Known) (xscale_Utc : Tscale_Utc) (xposix_From : Tposix_From) (xzone_Lookup : Tzone_Lookup) (xposix_Day : Tposix_Day) (xday_Date : Tday_Date) (xstamp_Clock : Tstamp_Clock) : EqF Tryz.prog 88 gives Tryz.f31 [Jlocal_Known xlocal_Known, Jscale_Utc xscale_Utc, Jposix_From xposix_From, Jzone_Lookup xzone_Lookup, Jposix_Day xposix_Day, Jday_Date xday_Date, Jstamp_Clock xstamp_Clock] [] (Jlocal_Civil (Ylocal_Civil xlocal_Known xscale_Utc xposix_From xzone_Lookup xposix_Day xday_Date xstamp_Clock)) := fun x y K => by kernel_rfl
theorem Ilocal_Civil_ok : InstOk Tryz.prog G.1 Ilocal_Civil := iok (gives := gives) [] (okCons Ilocal_Known_ok (okCons Iscale_Utc_ok (okCons Iposix_From_ok (okCons Izone_Lookup_ok (okCons Iposix_Day_ok (okCons Iday_Date_ok (okCons Istamp_Clock_ok okNil))))))) 88 follows Tryz.func31 (by kernel_rfl) (fun x => by kernel_rfl) (Elocal_Civil Xlocal_Known Xscale_Utc Xposix_From Xzone_Lookup Xposix_Day Xday_Date Xstamp_Clock)
abbrev Tlocal_Show : Type := Q15 → Int → (ByteArray → Int → Prop) → Prop
def Ylocal_Show (xlocal_Civil : Tlocal_Civil) (xlocal_Text : Tlocal_Text) (a0 : Q15) (a1 : Int) (K : ByteArray → Int → Prop) : Prop :=
 xlocal_Civil a0 a1 (fun r2 r3 =>
 (if (r3 == 0) then
 xlocal_Text r2 (fun r4 r5 =>
 K r4 r3)
 else
 K (ByteArray.mk #[]) r3))
def Xlocal_Show : Tlocal_Show := Ylocal_Show Xlocal_Civil Xlocal_Text
def Jlocal_Show (X : Tlocal_Show) : Inst := mkI 37 pL72 .nil pL61 .nil X
def Ilocal_Show : Inst := Jlocal_Show Xlocal_Show
theorem Elocal_Show (xlocal_Civil : Tlocal_Civil) (xlocal_Text : Tlocal_Text) : EqF Tryz.prog 22 gives Tryz.f37 [Jlocal_Civil xlocal_Civil, Jlocal_Text xlocal_Text] [] (Jlocal_Show (Ylocal_Show xlocal_Civil xlocal_Text)) := fun x y K => by kernel_rfl
theorem Ilocal_Show_ok : InstOk Tryz.prog G.1 Ilocal_Show := iok (gives := gives) [] (okCons Ilocal_Civil_ok (okCons Ilocal_Text_ok okNil)) 22 follows Tryz.func37 (by kernel_rfl) (fun x => by kernel_rfl) (Elocal_Show Xlocal_Civil Xlocal_Text)
abbrev Tposix_Tai : Type := (List Eng.V) → Int → (Int → Int → Prop) → Prop
def Yposix_Tai (xposix_Day : Tposix_Day) (xscale_Tai : Tscale_Tai) (a0 : (List Eng.V)) (a1 : Int) (K : Int → Int → Prop) : Prop :=
 xposix_Day a1 (fun r2 r3 =>
 xscale_Tai a0 r2 r3 (fun r4 r5 =>
 K r4 r5))
def Xposix_Tai : Tposix_Tai := Yposix_Tai Xposix_Day Xscale_Tai
def Jposix_Tai (X : Tposix_Tai) : Inst := mkI 102 pL79 .nil pL24 .nil X
def Iposix_Tai : Inst := Jposix_Tai Xposix_Tai
theorem Eposix_Tai (xposix_Day : Tposix_Day) (xscale_Tai : Tscale_Tai) : EqF Tryz.prog 19 gives Tryz.f102 [Jposix_Day xposix_Day, Jscale_Tai xscale_Tai] [] (Jposix_Tai (Yposix_Tai xposix_Day xscale_Tai)) := fun x y K => by kernel_rfl
theorem Iposix_Tai_ok : InstOk Tryz.prog G.1 Iposix_Tai := iok (gives := gives) [] (okCons Iposix_Day_ok (okCons Iscale_Tai_ok okNil)) 19 follows Tryz.func102 (by kernel_rfl) (fun x => by kernel_rfl) (Eposix_Tai Xposix_Day Xscale_Tai)
abbrev Tlocal_Read : Type := Q15 → ByteArray → (Int → Int → Prop) → Prop
def Llocal_Read_0 (xlocal_Show : Tlocal_Show) (K : Int → Int → Prop) : (Q123 → Prop) → Q123 → Prop := fun k13 x14 =>
 (if decide (x14.1.2.2.2.2.2.2.1 < x14.1.2.2.2.2.2.1) then
 (if 0 ≤ x14.1.2.2.2.2.2.2.1 ∧ x14.1.2.2.2.2.2.2.1 < (↑(List.length x14.2.2.1) : Int) then
 (Eng.asInt IntKind.i64 (Eng.getC x14.2.2.1 (Int.toNat x14.1.2.2.2.2.2.2.1) (0 : Nat)) False fun n15 =>
 xlocal_Show x14.2.1 n15 (fun r16 r17 =>
 (if (r17 == 0) then
 (if (ByteArray.toList r16 == ByteArray.toList x14.1.1) then
 K n15 0
 else
 k13 ((x14.1.1, (), x14.1.2.2.1, x14.1.2.2.2.1, (), x14.1.2.2.2.2.2.1, w64 (x14.1.2.2.2.2.2.2.1 + 1), ()), x14.2))
 else
 k13 ((x14.1.1, (), x14.1.2.2.1, x14.1.2.2.2.1, (), x14.1.2.2.2.2.2.1, w64 (x14.1.2.2.2.2.2.2.1 + 1), ()), x14.2))))
 else
 False)
 else
 K 0 11)
def Llocal_Read_0p : Lp := ⟨32281802128991715382, [.trim 32281802128991715382], pT124, pH125, 0⟩
def Ylocal_Read (xlocal_Known : Tlocal_Known) (xlocal_Parse : Tlocal_Parse) (xposix_Tai : Tposix_Tai) (xlocal_Show : Tlocal_Show) (a0 : Q15) (a1 : ByteArray) (K : Int → Int → Prop) : Prop :=
 xlocal_Known a0 (fun r2 =>
 (if (!r2) then
 K 0 1
 else
 xlocal_Parse a1 (fun r3 r4 =>
 (if (!r4) then
 K 0 2
 else
 (lt (w64 (w64 (r3.1 * 86400) + w64 (r3.2.1 * 3600))) fun v5 =>
 (lt (w64 (v5 + w64 (r3.2.2.1 * 60))) fun v6 =>
 (lt (w64 (w64 (v6 + r3.2.2.2.1) - r3.2.2.2.2.1)) fun v7 =>
 xposix_Tai a0.2.2.1 (w64 (v7 - 1)) (fun r8 r9 =>
 xposix_Tai a0.2.2.1 v7 (fun r10 r11 =>
 (lt (↑(List.length [Eng.V.c (Value.int IntKind.i64 (w64 (r8 + 1))), Eng.V.c (Value.int IntKind.i64 r10)]) : Int) fun v12 =>
 lp (Llocal_Read_0 xlocal_Show K) ((a1, (), 0, 0, (), v12, 0, ()), a0, [Eng.V.c (Value.int IntKind.i64 (w64 (r8 + 1))), Eng.V.c (Value.int IntKind.i64 r10)], ())))))))))))
def Xlocal_Read : Tlocal_Read := Ylocal_Read Xlocal_Known Xlocal_Parse Xposix_Tai Xlocal_Show
def Jlocal_Read (X : Tlocal_Read) : Inst := mkI 39 pL126 .nil pL24 .nil X
def Ilocal_Read : Inst := Jlocal_Read Xlocal_Read
theorem Elocal_Read (xlocal_Known : Tlocal_Known) (xlocal_Parse : Tlocal_Parse) (xposix_Tai : Tposix_Tai) (xlocal_Show : Tlocal_Show) : EqF Tryz.prog 83 gives Tryz.f39 [Jlocal_Known xlocal_Known, Jlocal_Parse xlocal_Parse, Jposix_Tai xposix_Tai, Jlocal_Show xlocal_Show] [Llocal_Read_0p] (Jlocal_Read (Ylocal_Read xlocal_Known xlocal_Parse xposix_Tai xlocal_Show)) := fun x y K => by kernel_rfl
theorem Ilocal_Read_ok : InstOk Tryz.prog G.1 Ilocal_Read := iok (gives := gives) [Llocal_Read_0p] (okCons Ilocal_Known_ok (okCons Ilocal_Parse_ok (okCons Iposix_Tai_ok (okCons Ilocal_Show_ok okNil)))) 83 follows Tryz.func39 (by kernel_rfl) (fun x => by kernel_rfl) (Elocal_Read Xlocal_Known Xlocal_Parse Xposix_Tai Xlocal_Show)
abbrev Tepactlaw24_small : Type := (Bool → Prop) → Prop
def Yepactlaw24_small (xlocal_Show : Tlocal_Show) (xlocal_Read : Tlocal_Read) (xlocal_Parse : Tlocal_Parse) (xlocal_Text : Tlocal_Text) (xlocal_Civil : Tlocal_Civil) (xlocal_Known : Tlocal_Known) (K : Bool → Prop) : Prop :=
 xlocal_Show ([Eng.V.agg [Eng.V.c (Value.int IntKind.i64 (-18000)), Eng.V.c (Value.bool false), Eng.V.c (Value.string (ByteArray.mk #[(69 : UInt8), (83 : UInt8), (84 : UInt8)]))]], [], [Eng.V.agg [Eng.V.c (Value.int IntKind.i64 78796800), Eng.V.c (Value.int IntKind.i64 1)]], ByteArray.mk #[], 2, ()) 15724800 (fun r0 r1 =>
 xlocal_Show ([Eng.V.agg [Eng.V.c (Value.int IntKind.i64 (-18000)), Eng.V.c (Value.bool false), Eng.V.c (Value.string (ByteArray.mk #[(69 : UInt8), (83 : UInt8), (84 : UInt8)]))]], [], [Eng.V.agg [Eng.V.c (Value.int IntKind.i64 78796800), Eng.V.c (Value.int IntKind.i64 1)]], ByteArray.mk #[], 2, ()) 15724801 (fun r2 r3 =>
 xlocal_Read ([Eng.V.agg [Eng.V.c (Value.int IntKind.i64 (-18000)), Eng.V.c (Value.bool false), Eng.V.c (Value.string (ByteArray.mk #[(69 : UInt8), (83 : UInt8), (84 : UInt8)]))]], [], [Eng.V.agg [Eng.V.c (Value.int IntKind.i64 78796800), Eng.V.c (Value.int IntKind.i64 1)]], ByteArray.mk #[], 2, ()) (ByteArray.mk #[(49 : UInt8), (57 : UInt8), (55 : UInt8), (50 : UInt8), (45 : UInt8), (48 : UInt8), (54 : UInt8), (45 : UInt8), (51 : UInt8), (48 : UInt8), (84 : UInt8), (49 : UInt8), (56 : UInt8), (58 : UInt8), (53 : UInt8), (57 : UInt8), (58 : UInt8), (54 : UInt8), (48 : UInt8), (45 : UInt8), (48 : UInt8), (53 : UInt8), (58 : UInt8), (48 : UInt8), (48 : UInt8), (32 : UInt8), (69 : UInt8), (83 : UInt8), (84 : UInt8)]) (fun r4 r5 =>
 xlocal_Read ([Eng.V.agg [Eng.V.c (Value.int IntKind.i64 (-18000)), Eng.V.c (Value.bool false), Eng.V.c (Value.string (ByteArray.mk #[(69 : UInt8), (83 : UInt8), (84 : UInt8)]))]], [], [Eng.V.agg [Eng.V.c (Value.int IntKind.i64 78796800), Eng.V.c (Value.int IntKind.i64 1)]], ByteArray.mk #[], 2, ()) (ByteArray.mk #[(49 : UInt8), (57 : UInt8), (55 : UInt8), (50 : UInt8), (45 : UInt8), (48 : UInt8), (54 : UInt8), (45 : UInt8), (51 : UInt8), (48 : UInt8), (84 : UInt8), (49 : UInt8), (56 : UInt8), (58 : UInt8), (53 : UInt8), (57 : UInt8), (58 : UInt8), (53 : UInt8), (57 : UInt8), (45 : UInt8), (48 : UInt8), (53 : UInt8), (58 : UInt8), (48 : UInt8), (48 : UInt8), (32 : UInt8), (69 : UInt8), (83 : UInt8), (84 : UInt8)]) (fun r6 r7 =>
 xlocal_Read ([Eng.V.agg [Eng.V.c (Value.int IntKind.i64 (-18000)), Eng.V.c (Value.bool false), Eng.V.c (Value.string (ByteArray.mk #[(69 : UInt8), (83 : UInt8), (84 : UInt8)]))]], [], [Eng.V.agg [Eng.V.c (Value.int IntKind.i64 78796800), Eng.V.c (Value.int IntKind.i64 1)]], ByteArray.mk #[], 2, ()) (ByteArray.mk #[(49 : UInt8), (57 : UInt8), (55 : UInt8), (50 : UInt8), (45 : UInt8), (48 : UInt8), (54 : UInt8), (45 : UInt8), (51 : UInt8), (48 : UInt8), (84 : UInt8), (49 : UInt8), (56 : UInt8), (58 : UInt8), (53 : UInt8), (57 : UInt8), (58 : UInt8), (53 : UInt8), (57 : UInt8), (45 : UInt8), (48 : UInt8), (52 : UInt8), (58 : UInt8), (48 : UInt8), (48 : UInt8), (32 : UInt8), (69 : UInt8), (68 : UInt8), (84 : UInt8)]) (fun r8 r9 =>
 xlocal_Read ([Eng.V.agg [Eng.V.c (Value.int IntKind.i64 (-18000)), Eng.V.c (Value.bool false), Eng.V.c (Value.string (ByteArray.mk #[(69 : UInt8), (83 : UInt8), (84 : UInt8)]))]], [], [Eng.V.agg [Eng.V.c (Value.int IntKind.i64 78796800), Eng.V.c (Value.int IntKind.i64 1)]], ByteArray.mk #[], 2, ()) (ByteArray.mk #[(49 : UInt8), (57 : UInt8), (55 : UInt8), (50 : UInt8), (45 : UInt8), (48 : UInt8), (54 : UInt8), (45 : UInt8), (51 : UInt8), (48 : UInt8), (32 : UInt8), (49 : UInt8), (56 : UInt8), (58 : UInt8), (53 : UInt8), (57 : UInt8), (58 : UInt8), (53 : UInt8), (57 : UInt8)]) (fun r10 r11 =>
 xlocal_Parse (ByteArray.mk #[(50 : UInt8), (48 : UInt8), (48 : UInt8), (48 : UInt8), (45 : UInt8), (48 : UInt8), (49 : UInt8), (45 : UInt8), (48 : UInt8), (49 : UInt8), (84 : UInt8), (48 : UInt8), (48 : UInt8), (58 : UInt8), (48 : UInt8), (48 : UInt8), (58 : UInt8), (48 : UInt8), (48 : UInt8), (43 : UInt8), (48 : UInt8), (53 : UInt8), (58 : UInt8), (51 : UInt8), (48 : UInt8), (58 : UInt8), (49 : UInt8), (53 : UInt8), (32 : UInt8), (76 : UInt8), (77 : UInt8), (84 : UInt8)]) (fun r12 r13 =>
 xlocal_Text r12 (fun r14 r15 =>
 xlocal_Parse (ByteArray.mk #[(50 : UInt8), (48 : UInt8), (48 : UInt8), (48 : UInt8), (45 : UInt8), (48 : UInt8), (49 : UInt8), (45 : UInt8), (48 : UInt8), (49 : UInt8), (84 : UInt8), (48 : UInt8), (48 : UInt8), (58 : UInt8), (48 : UInt8), (48 : UInt8), (58 : UInt8), (48 : UInt8), (48 : UInt8), (45 : UInt8), (48 : UInt8), (48 : UInt8), (58 : UInt8), (48 : UInt8), (48 : UInt8), (32 : UInt8), (85 : UInt8), (84 : UInt8), (67 : UInt8)]) (fun r16 r17 =>
 xlocal_Show ([Eng.V.agg [Eng.V.c (Value.int IntKind.i64 (-18000)), Eng.V.c (Value.bool false), Eng.V.c (Value.string (ByteArray.mk #[(69 : UInt8), (83 : UInt8), (84 : UInt8)]))]], [], [Eng.V.agg [Eng.V.c (Value.int IntKind.i64 78796800), Eng.V.c (Value.int IntKind.i64 1)]], ByteArray.mk #[], 2, ()) (-1) (fun r18 r19 =>
 xlocal_Civil ([Eng.V.agg [Eng.V.c (Value.int IntKind.i64 (-18000)), Eng.V.c (Value.bool false), Eng.V.c (Value.string (ByteArray.mk #[(69 : UInt8), (83 : UInt8), (84 : UInt8)]))]], [], [Eng.V.agg [Eng.V.c (Value.int IntKind.i64 78796800), Eng.V.c (Value.int IntKind.i64 1)]], ByteArray.mk #[], 2, ()) 0 (fun r20 r21 =>
 xlocal_Show ([], [], [], ByteArray.mk #[], 0, ()) 0 (fun r22 r23 =>
 (lt (ByteArray.toList r0 == ByteArray.toList (ByteArray.mk #[(49 : UInt8), (57 : UInt8), (55 : UInt8), (50 : UInt8), (45 : UInt8), (48 : UInt8), (54 : UInt8), (45 : UInt8), (51 : UInt8), (48 : UInt8), (84 : UInt8), (49 : UInt8), (56 : UInt8), (58 : UInt8), (53 : UInt8), (57 : UInt8), (58 : UInt8), (54 : UInt8), (48 : UInt8), (45 : UInt8), (48 : UInt8), (53 : UInt8), (58 : UInt8), (48 : UInt8), (48 : UInt8), (32 : UInt8), (69 : UInt8), (83 : UInt8), (84 : UInt8)])) fun v24 =>
 (if v24 then
 (if (r1 == 0) then
 (lt (ByteArray.toList r2 == ByteArray.toList (ByteArray.mk #[(49 : UInt8), (57 : UInt8), (55 : UInt8), (50 : UInt8), (45 : UInt8), (48 : UInt8), (54 : UInt8), (45 : UInt8), (51 : UInt8), (48 : UInt8), (84 : UInt8), (49 : UInt8), (57 : UInt8), (58 : UInt8), (48 : UInt8), (48 : UInt8), (58 : UInt8), (48 : UInt8), (48 : UInt8), (45 : UInt8), (48 : UInt8), (53 : UInt8), (58 : UInt8), (48 : UInt8), (48 : UInt8), (32 : UInt8), (69 : UInt8), (83 : UInt8), (84 : UInt8)])) fun v25 =>
 (if v25 then
 (if (r3 == 0) then
 (if (r4 == 15724800) then
 (if (r5 == 0) then
 (if (r6 == 15724799) then
 (if (r7 == 0) then
 (if (r9 == 11) then
 (if (r11 == 2) then
 (if r13 then
 (if (r12.2.2.2.2.1 == 19815) then
 (lt (ByteArray.toList r14 == ByteArray.toList (ByteArray.mk #[(50 : UInt8), (48 : UInt8), (48 : UInt8), (48 : UInt8), (45 : UInt8), (48 : UInt8), (49 : UInt8), (45 : UInt8), (48 : UInt8), (49 : UInt8), (84 : UInt8), (48 : UInt8), (48 : UInt8), (58 : UInt8), (48 : UInt8), (48 : UInt8), (58 : UInt8), (48 : UInt8), (48 : UInt8), (43 : UInt8), (48 : UInt8), (53 : UInt8), (58 : UInt8), (51 : UInt8), (48 : UInt8), (58 : UInt8), (49 : UInt8), (53 : UInt8), (32 : UInt8), (76 : UInt8), (77 : UInt8), (84 : UInt8)])) fun v26 =>
 (if v26 then
 (if r15 then
 (if (!r17) then
 (if (r19 == 9) then
 (if (r21 == 0) then
 (lt (r20.1 == 729 && (r20.2.1 == 19 && (r20.2.2.1 == 0 && (r20.2.2.2.1 == 0 && (r20.2.2.2.2.1 == (-18000) && (r20.2.2.2.2.2.1 == false && (ByteArray.toList r20.2.2.2.2.2.2.1 == ByteArray.toList (ByteArray.mk #[(69 : UInt8), (83 : UInt8), (84 : UInt8)]) && true))))))) fun v27 =>
 (if v27 then
 (if (r23 == 1) then
 xlocal_Known ([Eng.V.agg [Eng.V.c (Value.int IntKind.i64 (-18000)), Eng.V.c (Value.bool false), Eng.V.c (Value.string (ByteArray.mk #[(69 : UInt8), (83 : UInt8), (84 : UInt8)]))]], [], [Eng.V.agg [Eng.V.c (Value.int IntKind.i64 78796800), Eng.V.c (Value.int IntKind.i64 1)]], ByteArray.mk #[], 2, ()) (fun r28 =>
 K r28)
 else
 K false)
 else
 K false))
 else
 K false)
 else
 K false)
 else
 K false)
 else
 K false)
 else
 K false))
 else
 K false)
 else
 K false)
 else
 K false)
 else
 K false)
 else
 K false)
 else
 K false)
 else
 K false)
 else
 K false)
 else
 K false)
 else
 K false))
 else
 K false)
 else
 K false))))))))))))))
def Xepactlaw24_small : Tepactlaw24_small := Yepactlaw24_small Xlocal_Show Xlocal_Read Xlocal_Parse Xlocal_Text Xlocal_Civil Xlocal_Known
def Jepactlaw24_small (X : Tepactlaw24_small) : Inst := mkI 30 .nil .nil pL1 .nil X
def Iepactlaw24_small : Inst := Jepactlaw24_small Xepactlaw24_small
theorem Eepactlaw24_small (xlocal_Show : Tlocal_Show) (xlocal_Read : Tlocal_Read) (xlocal_Parse : Tlocal_Parse) (xlocal_Text : Tlocal_Text) (xlocal_Civil : Tlocal_Civil) (xlocal_Known : Tlocal_Known) : EqF Tryz.prog 167 gives Tryz.f30 [Jlocal_Show xlocal_Show, Jlocal_Read xlocal_Read, Jlocal_Parse xlocal_Parse, Jlocal_Text xlocal_Text, Jlocal_Civil xlocal_Civil, Jlocal_Known xlocal_Known] [] (Jepactlaw24_small (Yepactlaw24_small xlocal_Show xlocal_Read xlocal_Parse xlocal_Text xlocal_Civil xlocal_Known)) := fun x y K => by kernel_rfl
theorem Iepactlaw24_small_ok : InstOk Tryz.prog G.1 Iepactlaw24_small := iok (gives := gives) [] (okCons Ilocal_Show_ok (okCons Ilocal_Read_ok (okCons Ilocal_Parse_ok (okCons Ilocal_Text_ok (okCons Ilocal_Civil_ok (okCons Ilocal_Known_ok okNil)))))) 167 follows Tryz.func30 (by kernel_rfl) (fun x => by kernel_rfl) (Eepactlaw24_small Xlocal_Show Xlocal_Read Xlocal_Parse Xlocal_Text Xlocal_Civil Xlocal_Known)
abbrev Tepactlaw24_LocalUtc : Type := (List Eng.V) → Int → (Bool → Prop) → Prop
def Yepactlaw24_LocalUtc (xepactlaw24_small : Tepactlaw24_small) (xlocal_Show : Tlocal_Show) (xscale_Utc : Tscale_Utc) (xstamp_Text : Tstamp_Text) (xlocal_Read : Tlocal_Read) (a0 : (List Eng.V)) (a1 : Int) (K : Bool → Prop) : Prop :=
 xepactlaw24_small (fun r2 =>
 (if decide ((↑(List.length a0) : Int) > 150) then
 K r2
 else
 xlocal_Show ([Eng.V.agg [Eng.V.c (Value.int IntKind.i64 0), Eng.V.c (Value.bool false), Eng.V.c (Value.string (ByteArray.mk #[(85 : UInt8), (84 : UInt8), (67 : UInt8)]))]], [], a0, ByteArray.mk #[], 4, ()) a1 (fun r3 r4 =>
 xscale_Utc a0 a1 (fun r5 r6 r7 =>
 (if (r4 != r7) then
 (if r2 then
 (if (r4 == r7) then
 K (ByteArray.toList r3 == ByteArray.toList (ByteArray.mk #[]))
 else
 K false)
 else
 K false)
 else
 (if (r4 != 0) then
 (if r2 then
 (if (r4 == r7) then
 K (ByteArray.toList r3 == ByteArray.toList (ByteArray.mk #[]))
 else
 K false)
 else
 K false)
 else
 xstamp_Text r5 r6 (fun r8 r9 =>
 (if (!r9) then
 K false
 else
 (if ((↑(ByteArray.size r8) : Int) != 20) then
 K false
 else
 xlocal_Read ([Eng.V.agg [Eng.V.c (Value.int IntKind.i64 0), Eng.V.c (Value.bool false), Eng.V.c (Value.string (ByteArray.mk #[(85 : UInt8), (84 : UInt8), (67 : UInt8)]))]], [], a0, ByteArray.mk #[], 4, ()) r3 (fun r10 r11 =>
 (if r2 then
 (if (0 :Int) ≤ 19 ∧ 19 ≤ (↑(ByteArray.size r8) : Int) then
 (if (↑(ByteArray.size (ByteArray.extract r8 (0 : Nat) (19 : Nat)) + (10 : Nat)) : Int) > 9223372036854775807 then
 False
 else
 (lt (ByteArray.extract r8 (0 : Nat) (19 : Nat) ++ ByteArray.mk #[(43 : UInt8), (48 : UInt8), (48 : UInt8), (58 : UInt8), (48 : UInt8), (48 : UInt8), (32 : UInt8), (85 : UInt8), (84 : UInt8), (67 : UInt8)]) fun v12 =>
 (if (ByteArray.toList r3 == ByteArray.toList v12) then
 (if (r10 == a1) then
 K (r11 == 0)
 else
 K false)
 else
 K false)))
 else
 False)
 else
 K false)))))))))))
def Xepactlaw24_LocalUtc : Tepactlaw24_LocalUtc := Yepactlaw24_LocalUtc Xepactlaw24_small Xlocal_Show Xscale_Utc Xstamp_Text Xlocal_Read
def Jepactlaw24_LocalUtc (X : Tepactlaw24_LocalUtc) : Inst := mkI 14 pL79 .nil pL1 .nil X
def Iepactlaw24_LocalUtc : Inst := Jepactlaw24_LocalUtc Xepactlaw24_LocalUtc
theorem Eepactlaw24_LocalUtc (xepactlaw24_small : Tepactlaw24_small) (xlocal_Show : Tlocal_Show) (xscale_Utc : Tscale_Utc) (xstamp_Text : Tstamp_Text) (xlocal_Read : Tlocal_Read) : EqF Tryz.prog 91 gives Tryz.f14 [Jepactlaw24_small xepactlaw24_small, Jlocal_Show xlocal_Show, Jscale_Utc xscale_Utc, Jstamp_Text xstamp_Text, Jlocal_Read xlocal_Read] [] (Jepactlaw24_LocalUtc (Yepactlaw24_LocalUtc xepactlaw24_small xlocal_Show xscale_Utc xstamp_Text xlocal_Read)) := fun x y K => by kernel_rfl
theorem Iepactlaw24_LocalUtc_ok : InstOk Tryz.prog G.1 Iepactlaw24_LocalUtc := iok (gives := gives) [] (okCons Iepactlaw24_small_ok (okCons Ilocal_Show_ok (okCons Iscale_Utc_ok (okCons Istamp_Text_ok (okCons Ilocal_Read_ok okNil))))) 91 follows Tryz.func14 (by kernel_rfl) (fun x => by kernel_rfl) (Eepactlaw24_LocalUtc Xepactlaw24_small Xlocal_Show Xscale_Utc Xstamp_Text Xlocal_Read)
end Go.Proofs.YtodmkipcgfodkaaGreatDoor
end
section
set_option linter.unusedVariables false
set_option linter.unusedSimpArgs false
set_option linter.unusedVariables false
namespace Go.Proofs.YtodmkipcgfodkaaGreatDoor
open Go Go.Proofs.YtodmkipcgfodkaaGreatDoor.Eng
abbrev akLocalUtc0 : AK := (.sl (.st (.cons (.int .i64) (.cons (.int .i64) .nil))))
abbrev akLocalUtc1 : AK := (.int .i64)
/-- The law over plain data. -/
def PureLocalUtc : Prop := ∀ (a0 : akLocalUtc0.T) (h0 : akLocalUtc0.good a0) (a1 : akLocalUtc1.T) (h1 : akLocalUtc1.good a1), Xepactlaw24_LocalUtc (akLocalUtc0.DV a0) (akLocalUtc1.DV a1) (fun b => b = true)
end Go.Proofs.YtodmkipcgfodkaaGreatDoor
end
section
set_option linter.unusedVariables false
set_option linter.unusedSimpArgs false
namespace Go.Proofs.YtodmkipcgfodkaaGreatDoor.Pl
open Go
set_option linter.unusedVariables false
set_option linter.unusedSimpArgs false
def digsN : Nat → Nat → List UInt8
  | 0, _ => []
  | k + 1, u => if u < 10 then [UInt8.ofNat (48 + u)] else digsN k (u / 10) ++ [UInt8.ofNat (48 + u % 10)]
theorem digsN_eq : ∀ k u, u < 10 ^ (k + 1) → digsN (k + 1) u = Lib.decDigits u
  | 0, u, h => by rw [Lib.decDigits, digsN, if_pos (by simpa using h), dif_pos (by simpa using h)]
  | k + 1, u, h => by
    rw [Lib.decDigits, digsN]
    by_cases h1 : u < 10
    · rw [if_pos h1, dif_pos h1]
    · rw [if_neg h1, dif_neg h1, digsN_eq k (u / 10) (by rw [Nat.pow_succ] at h; omega)]
def itoaK (n : Int) : List UInt8 := if n < 0 then 45 :: digsN 20 n.natAbs else digsN 20 n.toNat
theorem itoaK_eq (n : Int) (h0 : -9223372036854775808 ≤ n) (h1 : n ≤ 9223372036854775807) : itoaK n = Lib.itoa n := by
  unfold itoaK Lib.itoa
  split
  · rw [digsN_eq 19 _ (by omega)]
  · rw [digsN_eq 19 _ (by omega)]
def isDig (c : UInt8) : Bool := 48 ≤ c.toNat && c.toNat ≤ 57
/-- A text out of a list. -/
abbrev S (l : List UInt8) : ByteArray := ⟨l.toArray⟩
theorem S_size (l : List UInt8) : (S l).size = l.length := by simp [S, ByteArray.size]
theorem S_append (a b : List UInt8) : S a ++ S b = S (a ++ b) := ByteArray.mk_append_mk a b
theorem S_toList (l : List UInt8) : (S l).toList = l := ByteArray.toList_mk l
theorem S_data (l : List UInt8) : (S l).data.toList = l := by simp [S]
theorem S_extract (l : List UInt8) (a b : Nat) : (S l).extract a b = S ((l.drop a).take (b - a)) := by rw [Lib.extract_eq, S_data]
theorem u8_eq {a b : UInt8} (h : a.toNat = b.toNat) : a = b := UInt8.toNat_inj.1 h
/-- How many digits a list begins with. -/
def dl (l : List UInt8) : Nat := (l.takeWhile isDig).length
theorem dl_le (l : List UInt8) : dl l ≤ l.length := by unfold dl; exact (List.takeWhile_sublist _).length_le
theorem dl_cons (c : UInt8) (l : List UInt8) : dl (c :: l) = if isDig c = true then dl l + 1 else 0 := by
  unfold dl; rw [List.takeWhile_cons]; split <;> simp
/-- The number of a row of digits. -/
def valL (l : List UInt8) : Nat := l.foldl (fun n c => 10 * n + (c.toNat - 48)) 0
theorem decFrom_val : ∀ (l : List UInt8) (acc : Nat), (∀ c ∈ l, isDig c = true) → Lib.decFrom acc l = some (l.foldl (fun n c => 10 * n + (c.toNat - 48)) acc)
  | [], acc, _ => rfl
  | c :: l, acc, h => by
    have hc : isDig c = true := h c (by simp)
    unfold isDig at hc
    simp at hc
    unfold Lib.decFrom Lib.digitVal
    rw [if_pos hc]
    simp only []
    rw [decFrom_val l _ (fun c' hc' => h c' (by simp [hc'])), List.foldl_cons, Nat.mul_comm]
theorem atoi_val (l : List UInt8) (hne : l ≠ []) (h : ∀ c ∈ l, isDig c = true) : Lib.atoi l = some (valL l : Int) := by
  cases l with
  | nil => exact absurd rfl hne
  | cons c r =>
    have hc : isDig c = true := h c (by simp)
    unfold isDig at hc
    simp at hc
    have h1 : (c == 45) = false := by rw [beq_eq_false_iff_ne]; rintro rfl; simp at hc
    have h2 : (c == 43) = false := by rw [beq_eq_false_iff_ne]; rintro rfl; simp at hc
    simp only [Lib.atoi, Lib.decNat, h1, h2, Bool.false_eq_true, if_false, List.isEmpty_cons]
    rw [decFrom_val _ _ h]
    rfl
theorem take_dl_dig (l : List UInt8) (k : Nat) (h : k ≤ dl l) : ∀ c ∈ l.take k, isDig c = true := by
  intro c hc
  have hs : l.take k = (l.takeWhile isDig).take k := by
    conv => lhs; rw [← List.takeWhile_append_dropWhile (p := isDig) (l := l)]
    rw [List.take_append_of_le_length h]
  rw [hs] at hc
  have hall : (l.takeWhile isDig).all isDig = true := List.all_takeWhile
  exact List.all_eq_true.1 hall c (List.mem_of_mem_take hc)
end Go.Proofs.YtodmkipcgfodkaaGreatDoor.Pl
end
section
set_option linter.unusedVariables false
set_option linter.unusedSimpArgs false
namespace Go.Proofs.YtodmkipcgfodkaaGreatDoor.Pl
open Go
set_option linter.unusedVariables false
set_option linter.unusedSimpArgs false
/-- What stands behind a colon: minutes, or seconds. -/
def sixtyL : List UInt8 → Int × List UInt8 × Bool
  | c :: a :: b :: r => if c = 58 ∧ isDig a = true ∧ isDig b = true ∧ a.toNat ≤ 53 then (10 * (a.toNat - 48) + (b.toNat - 48), r, true) else (0, c :: a :: b :: r, false)
  | l => (0, l, false)
theorem foldl_lt : ∀ (l : List UInt8) (acc : Nat), (∀ c ∈ l, isDig c = true) → l.foldl (fun n c => 10 * n + (c.toNat - 48)) acc < (acc + 1) * 10 ^ l.length
  | [], acc, _ => by simp
  | c :: l, acc, h => by
    have hc : isDig c = true := h c (by simp)
    unfold isDig at hc
    simp at hc
    have := foldl_lt l (10 * acc + (c.toNat - 48)) (fun c' hc' => h c' (by simp [hc']))
    rw [List.foldl_cons, List.length_cons, Nat.pow_succ]
    refine Nat.lt_of_lt_of_le this ?_
    have h1 : (10 * acc + (c.toNat - 48) + 1) ≤ (acc + 1) * 10 := by omega
    calc (10 * acc + (c.toNat - 48) + 1) * 10 ^ l.length ≤ ((acc + 1) * 10) * 10 ^ l.length := Nat.mul_le_mul_right _ h1
      _ = (acc + 1) * (10 ^ l.length * 10) := by rw [Nat.mul_assoc, Nat.mul_comm 10]
theorem valL_lt (l : List UInt8) (h : ∀ c ∈ l, isDig c = true) : valL l < 10 ^ l.length := by
  have := foldl_lt l 0 h
  simpa [valL] using this
theorem sixty_bd (l : List UInt8) : 0 ≤ (sixtyL l).1 ∧ (sixtyL l).1 ≤ 59 := by
  unfold sixtyL
  split
  · split
    · rename_i h
      obtain ⟨_, ha, hb, h5⟩ := h
      unfold isDig at ha hb
      simp at ha hb
      simp only []
      omega
    · simp
  · simp
/-- A time. -/
def signL : List UInt8 → Int × List UInt8
  | [] => (1, [])
  | c :: r => if c = 45 then (-1, r) else if c = 43 then (1, r) else (1, c :: r)
def hourL (t : List UInt8) : Nat × Nat :=
  if valL (t.take (min (dl t) 3)) > 167 then (valL (t.take (min (dl t) 3)) / 10, min (dl t) 3 - 1) else (valL (t.take (min (dl t) 3)), min (dl t) 3)
def moreL (p : Int × List UInt8 × Bool) : Int × List UInt8 × Bool := if p.2.2 = true then sixtyL p.2.1 else (0, p.2.1, false)
def timeL (l : List UInt8) : Int × List UInt8 × Bool :=
  if dl (signL l).2 = 0 then (0, l, false)
  else
    ((signL l).1 * ((hourL (signL l).2).1 * 3600 + (sixtyL ((signL l).2.drop (hourL (signL l).2).2)).1 * 60 + (moreL (sixtyL ((signL l).2.drop (hourL (signL l).2).2))).1),
      (moreL (sixtyL ((signL l).2.drop (hourL (signL l).2).2))).2.1, true)
theorem hour_bd (t : List UInt8) : (hourL t).1 ≤ 167 ∧ (hourL t).2 ≤ dl t ∧ (hourL t).2 ≤ 3 ∧ (dl t ≠ 0 → 1 ≤ (hourL t).2) := by
  have hv : valL (t.take (min (dl t) 3)) < 10 ^ (t.take (min (dl t) 3)).length := valL_lt _ (take_dl_dig t _ (Nat.min_le_left _ _))
  have hl : (t.take (min (dl t) 3)).length ≤ 3 := by rw [List.length_take]; omega
  have h3 : 10 ^ (t.take (min (dl t) 3)).length ≤ 10 ^ 3 := Nat.pow_le_pow_right (by omega) hl
  have hm : min (dl t) 3 ≤ dl t := Nat.min_le_left _ _
  have hm3 : min (dl t) 3 ≤ 3 := Nat.min_le_right _ _
  unfold hourL
  split
  · rename_i hgt
    refine ⟨by simp only []; omega, by simp only []; omega, by simp only []; omega, fun h0 => ?_⟩
    simp only []
    have : ¬ (t.take (min (dl t) 3)).length ≤ 1 := fun h1 => by
      have : 10 ^ (t.take (min (dl t) 3)).length ≤ 10 ^ 1 := Nat.pow_le_pow_right (by omega) h1
      omega
    rw [List.length_take] at this
    omega
  · refine ⟨by simp only []; omega, by simp only []; omega, by simp only []; omega, fun h0 => by simp only []; omega⟩
def pairL (m : Nat) : List UInt8 := 58 :: (digsN 20 (m / 10) ++ digsN 20 (m % 10))
theorem digsN_len : ∀ k u, (digsN k u).length ≤ k
  | 0, _ => by simp [digsN]
  | k + 1, u => by
    rw [digsN]
    split
    · simp
    · have := digsN_len k (u / 10); simp; omega
/-- The text of a time. -/
def clockB (a : Nat) : List UInt8 := digsN 20 (a / 3600) ++ (if a % 60 ≠ 0 then pairL (a / 60 % 60) ++ pairL (a % 60) else if a / 60 % 60 ≠ 0 then pairL (a / 60 % 60) else [])
def clockL (sec : Int) : List UInt8 × Bool := if -604799 ≤ sec ∧ sec ≤ 604799 then ((if sec < 0 then [45] else []) ++ clockB sec.natAbs, true) else ([], false)
theorem sixty_drop (l : List UInt8) : ∃ j, j ≤ l.length ∧ (sixtyL l).2.1 = l.drop j := by
  unfold sixtyL
  split
  · split
    · exact ⟨3, by simp, rfl⟩
    · exact ⟨0, by simp, rfl⟩
  · exact ⟨0, by simp, rfl⟩
theorem sign_drop (l : List UInt8) : ∃ j, j ≤ l.length ∧ (signL l).2 = l.drop j ∧ ((signL l).1 = 1 ∨ (signL l).1 = -1) := by
  unfold signL
  split
  · exact ⟨0, by simp, rfl, .inl rfl⟩
  · split
    · exact ⟨1, by simp, rfl, .inr rfl⟩
    · split
      · exact ⟨1, by simp, rfl, .inl rfl⟩
      · exact ⟨0, by simp, rfl, .inl rfl⟩
theorem time_drop (l : List UInt8) : ∃ j, j ≤ l.length ∧ (timeL l).2.1 = l.drop j ∧ ((timeL l).2.2 = true ↔ 0 < j) ∧ -604799 ≤ (timeL l).1 ∧ (timeL l).1 ≤ 604799 ∧ ((timeL l).2.2 = false → (timeL l).1 = 0 ∧ j = 0) := by
  obtain ⟨j0, h0, e0, hs⟩ := sign_drop l
  unfold timeL
  by_cases hd : dl (signL l).2 = 0
  · rw [if_pos hd]
    exact ⟨0, by omega, by simp, by simp, by simp, by simp, by simp⟩
  · rw [if_neg hd]
    obtain ⟨b1, b2, b3, b4⟩ := hour_bd (signL l).2
    have b4' := b4 hd
    have hdl := dl_le (signL l).2
    obtain ⟨j1, h1, e1⟩ := sixty_drop ((signL l).2.drop (hourL (signL l).2).2)
    have s1 := sixty_bd ((signL l).2.drop (hourL (signL l).2).2)
    have key : ∃ j2, j2 ≤ (sixtyL ((signL l).2.drop (hourL (signL l).2).2)).2.1.length ∧ (moreL (sixtyL ((signL l).2.drop (hourL (signL l).2).2))).2.1 = (sixtyL ((signL l).2.drop (hourL (signL l).2).2)).2.1.drop j2 ∧
        0 ≤ (moreL (sixtyL ((signL l).2.drop (hourL (signL l).2).2))).1 ∧ (moreL (sixtyL ((signL l).2.drop (hourL (signL l).2).2))).1 ≤ 59 := by
      unfold moreL
      split
      · obtain ⟨j2, h2, e2⟩ := sixty_drop (sixtyL ((signL l).2.drop (hourL (signL l).2).2)).2.1
        exact ⟨j2, h2, e2, sixty_bd _⟩
      · exact ⟨0, by omega, rfl, by simp, by simp⟩
    obtain ⟨j2, h2, e2, hb1, hb2⟩ := key
    rw [e2, e1, e0, List.drop_drop, List.drop_drop, List.drop_drop]
    rw [e1] at h2
    rw [e0] at h1 h2 hdl b2
    simp only [List.length_drop] at h1 h2 hdl
    rw [e0] at b4' b3 s1 hb1 hb2
    refine ⟨_, ?_, rfl, ?_, ?_⟩
    · omega
    · simp; omega
    · generalize (sixtyL (List.drop (hourL (List.drop j0 l)).2 (List.drop j0 l))).1 = x at *
      generalize (moreL (sixtyL (List.drop (hourL (List.drop j0 l)).2 (List.drop j0 l)))).1 = y at *
      rw [e0] at b1
      generalize (hourL (List.drop j0 l)).1 = v at *
      rcases hs with hs | hs <;> rw [hs] <;> refine ⟨?_, ?_, by simp⟩ <;> omega
end Go.Proofs.YtodmkipcgfodkaaGreatDoor.Pl
end
section
set_option linter.unusedVariables false
set_option linter.unusedSimpArgs false
namespace Go.Proofs.YtodmkipcgfodkaaGreatDoor.Pl
open Go
set_option linter.unusedVariables false
set_option linter.unusedSimpArgs false
/-- A leap year. -/
def leapY (y : Int) : Bool := decide (y % 4 = 0 ∧ (y % 100 ≠ 0 ∨ y % 400 = 0))
/-- The number of a year's first day. -/
def fst (y : Int) : Int := 365 * (y - 1) + (y - 1) / 4 - (y - 1) / 100 + (y - 1) / 400 - 719162
/-- How many days of a common year lie ahead of a month. -/
def cum0 (m : Int) : Int := if m = 1 then 0 else if m = 2 then 31 else if m = 3 then 59 else if m = 4 then 90 else if m = 5 then 120 else if m = 6 then 151 else if m = 7 then 181 else if m = 8 then 212 else if m = 9 then 243 else if m = 10 then 273 else if m = 11 then 304 else if m = 12 then 334 else 365
def cum (y m : Int) : Int := cum0 m + if 2 < m ∧ leapY y = true then 1 else 0
def dim (y m : Int) : Int := if m = 2 then (if leapY y = true then 29 else 28) else if m = 4 then 30 else if m = 6 then 30 else if m = 9 then 30 else if m = 11 then 30 else 31
/-- The number of a date. -/
def num (y m d : Int) : Int := fst y + cum y m + d - 1
/-- A date. -/
def Vld (y m d : Int) : Prop := 1 ≤ y ∧ y ≤ 9999 ∧ 1 ≤ m ∧ m ≤ 12 ∧ 1 ≤ d ∧ d ≤ dim y m
theorem leapY_iff (y : Int) : leapY y = true ↔ (y % 4 = 0 ∧ (y % 100 ≠ 0 ∨ y % 400 = 0)) := by unfold leapY; exact decide_eq_true_iff
theorem month_cases {m : Int} (h1 : 1 ≤ m) (h2 : m ≤ 12) : m = 1 ∨ m = 2 ∨ m = 3 ∨ m = 4 ∨ m = 5 ∨ m = 6 ∨ m = 7 ∨ m = 8 ∨ m = 9 ∨ m = 10 ∨ m = 11 ∨ m = 12 := by omega
theorem dim_bd (y m : Int) : 28 ≤ dim y m ∧ dim y m ≤ 31 := by unfold dim; repeat' split <;> omega
theorem fst_succ (y : Int) : fst (y + 1) = fst y + 365 + if leapY y = true then 1 else 0 := by
  have := leapY_iff y
  unfold fst
  by_cases h : leapY y = true
  · rw [if_pos h]; have := this.1 h; omega
  · rw [if_neg h]
    have h' : ¬ (y % 4 = 0 ∧ (y % 100 ≠ 0 ∨ y % 400 = 0)) := fun z => h (this.2 z)
    omega
theorem cum_succ (y m : Int) (h1 : 1 ≤ m) (h2 : m ≤ 12) : cum y m + dim y m = if m = 12 then 365 + (if leapY y = true then 1 else 0) else cum y (m + 1) := by
  rcases month_cases h1 h2 with rfl | rfl | rfl | rfl | rfl | rfl | rfl | rfl | rfl | rfl | rfl | rfl <;>
    cases hl : leapY y <;> simp [cum, cum0, dim, hl]
theorem num_bd {y m d : Int} (h : Vld y m d) : fst y ≤ num y m d ∧ num y m d < fst (y + 1) := by
  obtain ⟨_, _, h1, h2, h3, h4⟩ := h
  rw [fst_succ]
  unfold num
  rcases month_cases h1 h2 with rfl | rfl | rfl | rfl | rfl | rfl | rfl | rfl | rfl | rfl | rfl | rfl <;>
    cases hl : leapY y <;> simp [cum, cum0, dim, hl] at h4 ⊢ <;> omega
theorem fst_bd {y : Int} (h1 : 1 ≤ y) (h2 : y ≤ 9999) : -719162 ≤ fst y ∧ fst (y + 1) ≤ 2932897 := by unfold fst; omega
theorem num_range {y m d : Int} (h : Vld y m d) : -719162 ≤ num y m d ∧ num y m d ≤ 2932896 := by
  have := num_bd h
  have := fst_bd h.1 h.2.1
  omega
/-- A date's year and month, so counted. -/
def sy (y m : Int) : Int := if m < 3 then y - 1 else y
def sm (m : Int) : Int := if m < 3 then m + 12 else m
/-- The program's own formula. -/
def numP (y m d : Int) : Int := 146097 * (sy y m / 400) + 365 * (sy y m % 400) + (sy y m % 400) / 4 - (sy y m % 400) / 100 + ((153 * (sm m - 3) + 2) / 5 + d - 1) - 719468
theorem numP_eq {y m d : Int} (h1 : 1 ≤ m) (h2 : m ≤ 12) : numP y m d = num y m d := by
  have hl := leapY_iff y
  have key : ∀ b : Bool, leapY y = b → numP y m d = num y m d := by
    intro b hb
    cases b with
    | true =>
      have hl' := hl.1 hb
      rcases month_cases h1 h2 with rfl | rfl | rfl | rfl | rfl | rfl | rfl | rfl | rfl | rfl | rfl | rfl <;>
        simp [numP, num, fst, cum, cum0, sy, sm, hb] <;> omega
    | false =>
      have hl' : ¬ (y % 4 = 0 ∧ (y % 100 ≠ 0 ∨ y % 400 = 0)) := fun z => by rw [hl.2 z] at hb; cases hb
      rcases month_cases h1 h2 with rfl | rfl | rfl | rfl | rfl | rfl | rfl | rfl | rfl | rfl | rfl | rfl <;>
        simp [numP, num, fst, cum, cum0, sy, sm, hb] <;> omega
  exact key _ rfl
/-- The first day of March-year b of an era. -/
def st (b : Int) : Int := 365 * b + b / 4 - b / 100
def gy (o : Int) : Int := o - o / 1460 + o / 36524 - o / 146096
theorem gy_mono {a b : Int} (h0 : 0 ≤ a) (h : a ≤ b) (hb : b ≤ 146096) : gy a ≤ gy b := by unfold gy; omega
theorem ends : ∀ n : Nat, n < 400 → (gy (st n) / 365 = n ∧ gy (st (n + 1) - (if n = 399 then 0 else 1)) / 365 = n) := by decide +kernel
theorem year_of {o b : Int} (h0 : 0 ≤ b) (h1 : b < 400) (h2 : st b ≤ o) (h3 : o < st (b + 1) ∨ (b = 399 ∧ o ≤ 146096)) : gy o / 365 = b := by
  obtain ⟨n, rfl⟩ := Int.eq_ofNat_of_zero_le h0
  obtain ⟨e1, e2⟩ := ends n (by omega)
  have hs0 : 0 ≤ st n := by unfold st; omega
  have hs1 : st (n + 1) ≤ 146097 := by unfold st; omega
  by_cases hn : n = 399
  · subst hn
    have hm : st ((399 : Nat) + 1) = 146096 := by decide
    rw [if_pos rfl, hm] at e2
    have ho : o ≤ 146096 := by
      rcases h3 with h3 | h3
      · have : ((399 : Nat) : Int) + 1 = 400 := rfl
        rw [this] at h3; have : st 400 = 146096 := by decide
        omega
      · exact h3.2
    have g1 := gy_mono hs0 h2 ho
    have g2 := gy_mono (by omega : 0 ≤ o) ho (Int.le_refl _)
    simp only [Int.sub_zero] at e2
    omega
  · rw [if_neg hn] at e2
    have ho : o ≤ st (n + 1) - 1 := by
      rcases h3 with h3 | h3
      · omega
      · omega
    have g1 := gy_mono hs0 h2 (by omega)
    have g2 := gy_mono (by omega : 0 ≤ o) ho (by omega)
    omega
/-- The program's own date of a number. -/
def era (n : Int) : Int := (n + 719468) / 146097
def ofE (n : Int) : Int := (n + 719468) % 146097
def yrs (n : Int) : Int := gy (ofE n) / 365
def doy (n : Int) : Int := ofE n - st (yrs n)
def mon (n : Int) : Int := (5 * doy n + 2) / 153
def dayP (n : Int) : Int := doy n - (153 * mon n + 2) / 5 + 1
def monP (n : Int) : Int := if mon n + 3 > 12 then mon n + 3 - 12 else mon n + 3
def yearP (n : Int) : Int := 400 * era n + (if mon n + 3 > 12 then yrs n + 1 else yrs n)
theorem date_num' {y m d : Int} (h : Vld y m d) : (0 ≤ doy (num y m d) ∧ doy (num y m d) ≤ 365) ∧ yearP (num y m d) = y ∧ monP (num y m d) = m ∧ dayP (num y m d) = d := by
  obtain ⟨a1, a2, h1, h2, h3, h4⟩ := h
  have hl := leapY_iff y
  rw [← numP_eq h1 h2]
  have hb : 0 ≤ sy y m % 400 ∧ sy y m % 400 < 400 := by omega
  have hdoy : 0 ≤ (153 * (sm m - 3) + 2) / 5 + d - 1 ∧ st (sy y m % 400) + ((153 * (sm m - 3) + 2) / 5 + d - 1) ≤ 146096 ∧
      (st (sy y m % 400) + ((153 * (sm m - 3) + 2) / 5 + d - 1) < st (sy y m % 400 + 1) ∨ sy y m % 400 = 399) := by
    unfold st
    cases hb' : leapY y with
    | true =>
      have hl' := hl.1 hb'
      rcases month_cases h1 h2 with rfl | rfl | rfl | rfl | rfl | rfl | rfl | rfl | rfl | rfl | rfl | rfl <;>
        simp [sy, sm, dim, hb'] at h4 ⊢ <;> omega
    | false =>
      have hl' : ¬ (y % 4 = 0 ∧ (y % 100 ≠ 0 ∨ y % 400 = 0)) := fun z => by rw [hl.2 z] at hb'; cases hb'
      rcases month_cases h1 h2 with rfl | rfl | rfl | rfl | rfl | rfl | rfl | rfl | rfl | rfl | rfl | rfl <;>
        simp [sy, sm, dim, hb'] at h4 ⊢ <;> omega
  have hst0 : 0 ≤ st (sy y m % 400) := by unfold st; omega
  have hN : numP y m d + 719468 = 146097 * (sy y m / 400) + (st (sy y m % 400) + ((153 * (sm m - 3) + 2) / 5 + d - 1)) := by unfold numP st; omega
  have hera : era (numP y m d) = sy y m / 400 := by unfold era; omega
  have hof : ofE (numP y m d) = st (sy y m % 400) + ((153 * (sm m - 3) + 2) / 5 + d - 1) := by unfold ofE; omega
  have hyrs : yrs (numP y m d) = sy y m % 400 := by
    unfold yrs
    rw [hof]
    refine year_of hb.1 hb.2 (by omega) ?_
    rcases hdoy.2.2 with h | h
    · exact .inl h
    · exact .inr ⟨h, hdoy.2.1⟩
  have hdy : doy (numP y m d) = (153 * (sm m - 3) + 2) / 5 + d - 1 := by unfold doy; rw [hof, hyrs]; omega
  have hdd := dim_bd y m
  have hmon : mon (numP y m d) = sm m - 3 := by
    unfold mon
    rw [hdy]
    rcases month_cases h1 h2 with rfl | rfl | rfl | rfl | rfl | rfl | rfl | rfl | rfl | rfl | rfl | rfl <;>
      simp [sm, dim] at h4 ⊢ <;> omega
  refine ⟨?_, ?_, ?_, ?_⟩
  · rw [hdy]
    rcases month_cases h1 h2 with rfl | rfl | rfl | rfl | rfl | rfl | rfl | rfl | rfl | rfl | rfl | rfl <;>
      simp [sm, dim] at h4 ⊢ <;> omega
  · unfold yearP
    rw [hera, hyrs, hmon]
    rcases month_cases h1 h2 with rfl | rfl | rfl | rfl | rfl | rfl | rfl | rfl | rfl | rfl | rfl | rfl <;>
      simp [sm, sy] <;> omega
  · unfold monP
    rw [hmon]
    rcases month_cases h1 h2 with rfl | rfl | rfl | rfl | rfl | rfl | rfl | rfl | rfl | rfl | rfl | rfl <;> simp [sm]
  · unfold dayP
    rw [hdy, hmon]
    omega
theorem date_num {y m d : Int} (h : Vld y m d) : yearP (num y m d) = y ∧ monP (num y m d) = m ∧ dayP (num y m d) = d := (date_num' h).2
theorem year_ex (n : Int) (h0 : fst 1 ≤ n) : ∀ k : Nat, n < fst (1 + k) → ∃ y : Int, 1 ≤ y ∧ y ≤ k ∧ fst y ≤ n ∧ n < fst (y + 1)
  | 0, h => by simp at h; omega
  | k + 1, h => by
    by_cases h1 : n < fst (1 + k)
    · obtain ⟨y, a, b, c, d⟩ := year_ex n h0 k h1
      exact ⟨y, a, by omega, c, d⟩
    · exact ⟨1 + k, by omega, by omega, by omega, by have e : ((k + 1 : Nat) : Int) = (k : Int) + 1 := rfl; rw [e] at h; rw [Int.add_assoc]; exact h⟩
theorem month_ex (y r : Int) (h0 : 0 ≤ r) : ∀ k : Nat, k < 12 → r < cum y (1 + k) → ∃ m : Int, 1 ≤ m ∧ m ≤ k ∧ cum y m ≤ r ∧ r < cum y (m + 1)
  | 0, _, h => by simp [cum, cum0] at h; omega
  | k + 1, hk, h => by
    by_cases h1 : r < cum y (1 + k)
    · obtain ⟨m, a, b, c, d⟩ := month_ex y r h0 k (by omega) h1
      exact ⟨m, a, by omega, c, d⟩
    · exact ⟨1 + k, by omega, by omega, by omega, by have e : ((k + 1 : Nat) : Int) = (k : Int) + 1 := rfl; rw [e] at h; rw [Int.add_assoc]; exact h⟩
theorem date_ex {n : Int} (h0 : -719162 ≤ n) (h1 : n ≤ 2932896) : ∃ y m d, Vld y m d ∧ num y m d = n := by
  obtain ⟨y, a, b, c, e⟩ := year_ex n (by have : fst 1 = -719162 := by decide
                                          omega) 9999 (by have : fst (1 + (9999 : Nat)) = 2932897 := by decide
                                                          omega)
  rw [fst_succ] at e
  by_cases h : n - fst y < cum y 12
  · obtain ⟨m, a', b', c', e'⟩ := month_ex y (n - fst y) (by omega) 11 (by omega) h
    have hs := cum_succ y m a' (by omega)
    rw [if_neg (by omega)] at hs
    exact ⟨y, m, n - fst y - cum y m + 1, ⟨a, by omega, a', by omega, by omega, by omega⟩, by unfold num; omega⟩
  · have hs := cum_succ y 12 (by omega) (by omega)
    rw [if_pos rfl] at hs
    exact ⟨y, 12, n - fst y - cum y 12 + 1, ⟨a, by omega, by omega, by omega, by omega, by omega⟩, by unfold num; omega⟩
theorem num_date {n : Int} (h0 : -719162 ≤ n) (h1 : n ≤ 2932896) : Vld (yearP n) (monP n) (dayP n) ∧ num (yearP n) (monP n) (dayP n) = n := by
  obtain ⟨y, m, d, hv, rfl⟩ := date_ex h0 h1
  obtain ⟨e1, e2, e3⟩ := date_num hv
  rw [e1, e2, e3]
  exact ⟨hv, rfl⟩
theorem doy_bd {n : Int} (h0 : -719162 ≤ n) (h1 : n ≤ 2932896) : 0 ≤ doy n ∧ doy n ≤ 365 := by
  obtain ⟨y, m, d, hv, rfl⟩ := date_ex h0 h1
  exact (date_num' hv).1
/-- A day's place in the week, from Sunday on. -/
def wk (n : Int) : Int := (n + 4) % 7
end Go.Proofs.YtodmkipcgfodkaaGreatDoor.Pl
end
section
set_option linter.unusedVariables false
set_option linter.unusedSimpArgs false
namespace Go.Proofs.YtodmkipcgfodkaaGreatDoor.Pl
open Go
set_option linter.unusedVariables false
set_option linter.unusedSimpArgs false
def rightR (K A B C X : Int) : Bool :=
  decide ((-604799 ≤ X ∧ X ≤ 604799) ∧ ((K = 0 ∧ 1 ≤ A ∧ A ≤ 12 ∧ 1 ≤ B ∧ B ≤ 5 ∧ 0 ≤ C ∧ C ≤ 6) ∨ (K = 1 ∧ 1 ≤ A ∧ A ≤ 365 ∧ B = 0 ∧ C = 0) ∨ (K = 2 ∧ 0 ≤ A ∧ A ≤ 365 ∧ B = 0 ∧ C = 0)))
theorem right_iff (K A B C X : Int) : rightR K A B C X = true ↔ ((-604799 ≤ X ∧ X ≤ 604799) ∧ ((K = 0 ∧ 1 ≤ A ∧ A ≤ 12 ∧ 1 ≤ B ∧ B ≤ 5 ∧ 0 ≤ C ∧ C ≤ 6) ∨ (K = 1 ∧ 1 ≤ A ∧ A ≤ 365 ∧ B = 0 ∧ C = 0) ∨ (K = 2 ∧ 0 ≤ A ∧ A ≤ 365 ∧ B = 0 ∧ C = 0))) := by
  unfold rightR; exact decide_eq_true_iff
/-- The place of a rule's day in its month, from 0 on. -/
def offW (A B C y : Int) : Int := let k := (C - wk (num y A 1) + 7) % 7 + 7 * (B - 1); if k ≥ dim y A then k - 7 else k
def ruleDay (K A B C y : Int) : Int := if K = 2 then fst y + A else if K = 1 then (if A ≤ 59 ∨ leapY y = false then fst y - 1 + A else fst y + A) else num y A 1 + offW A B C y
theorem num_first (y : Int) : num y 1 1 = fst y := by unfold num cum cum0; simp
theorem dim_jan (y : Int) : dim y 1 = 31 := rfl
theorem off_bd {A B C y : Int} (h1 : 1 ≤ B) (h2 : B ≤ 5) : 0 ≤ offW A B C y ∧ offW A B C y < dim y A ∧ offW A B C y % 7 = (C - wk (num y A 1) + 7) % 7 := by
  have hd := dim_bd y A
  have hw : 0 ≤ wk (num y A 1) ∧ wk (num y A 1) < 7 := by unfold wk; omega
  unfold offW
  simp only []
  split <;> omega
theorem ruleDay_bd {K A B C X y : Int} (hy : 1 ≤ y ∧ y ≤ 9999) (hr : rightR K A B C X = true) : fst y ≤ ruleDay K A B C y ∧ ruleDay K A B C y ≤ fst y + 365 := by
  have hr' := (right_iff K A B C X).1 hr
  unfold ruleDay
  split
  · omega
  · split
    · split <;> omega
    · have hK : K = 0 ∧ 1 ≤ A ∧ A ≤ 12 ∧ 1 ≤ B ∧ B ≤ 5 ∧ 0 ≤ C ∧ C ≤ 6 := by omega
      obtain ⟨o1, o2, _⟩ := off_bd (A := A) (C := C) (y := y) hK.2.2.2.1 hK.2.2.2.2.1
      have hv : Vld y A (offW A B C y + 1) := ⟨hy.1, hy.2, hK.2.1, hK.2.2.1, by omega, by omega⟩
      have := num_bd hv
      rw [fst_succ] at this
      have e : num y A (offW A B C y + 1) = num y A 1 + offW A B C y := by unfold num; omega
      rw [e] at this
      split at this <;> omega
def cutP (c : UInt8) (l : List UInt8) : List UInt8 × Bool := if l.head? = some c then (l.tail, true) else (l, false)
theorem cut_drop (c : UInt8) (l : List UInt8) : ∃ j, j ≤ l.length ∧ (cutP c l).1 = l.drop j := by
  unfold cutP
  split
  · cases l with
    | nil => rename_i h; simp at h
    | cons a r => exact ⟨1, by simp, rfl⟩
  · exact ⟨0, by omega, rfl⟩
/-- A number of so many digits at most. -/
def numberL (l : List UInt8) (m : Nat) : Int × List UInt8 × Bool := if dl l = 0 ∨ m < dl l then (0, l, false) else ((valL (l.take (dl l)) : Int), l.drop (dl l), true)
theorem numberL_drop (l : List UInt8) (m : Nat) : ∃ j, j ≤ l.length ∧ (numberL l m).2.1 = l.drop j ∧ ((numberL l m).2.2 = true → 0 < j) := by
  unfold numberL
  split
  · exact ⟨0, by omega, rfl, by simp⟩
  · exact ⟨dl l, dl_le l, rfl, fun _ => by omega⟩
def weekL (l : List UInt8) : Int × Int × Int × List UInt8 × Bool :=
  ((numberL l 2).1, (numberL (cutP 46 (numberL l 2).2.1).1 1).1, (numberL (cutP 46 (numberL (cutP 46 (numberL l 2).2.1).1 1).2.1).1 1).1,
    (numberL (cutP 46 (numberL (cutP 46 (numberL l 2).2.1).1 1).2.1).1 1).2.1,
    (numberL l 2).2.2 && (numberL (cutP 46 (numberL l 2).2.1).1 1).2.2 && (numberL (cutP 46 (numberL (cutP 46 (numberL l 2).2.1).1 1).2.1).1 1).2.2 && (cutP 46 (numberL l 2).2.1).2 && (cutP 46 (numberL (cutP 46 (numberL l 2).2.1).1 1).2.1).2)
theorem weekL_drop (l : List UInt8) : ∃ j, j ≤ l.length ∧ (weekL l).2.2.2.1 = l.drop j ∧ ((weekL l).2.2.2.2 = true → 0 < j) := by
  unfold weekL
  obtain ⟨j1, h1, e1, p1⟩ := numberL_drop l 2
  obtain ⟨j2, h2, e2⟩ := cut_drop 46 (numberL l 2).2.1
  obtain ⟨j3, h3, e3, _⟩ := numberL_drop (cutP 46 (numberL l 2).2.1).1 1
  obtain ⟨j4, h4, e4⟩ := cut_drop 46 (numberL (cutP 46 (numberL l 2).2.1).1 1).2.1
  obtain ⟨j5, h5, e5, _⟩ := numberL_drop (cutP 46 (numberL (cutP 46 (numberL l 2).2.1).1 1).2.1).1 1
  refine ⟨j1 + j2 + j3 + j4 + j5, ?_, ?_, ?_⟩
  · rw [e4, List.length_drop, e3, List.length_drop, e2, List.length_drop, e1, List.length_drop] at h5
    rw [e3, List.length_drop, e2, List.length_drop, e1, List.length_drop] at h4
    rw [e2, List.length_drop, e1, List.length_drop] at h3
    rw [e1, List.length_drop] at h2
    omega
  · simp only []
    rw [e5, e4, e3, e2, e1]
    simp only [List.drop_drop]
  · intro h
    simp only [Bool.and_eq_true] at h
    have := p1 h.1.1.1.1
    omega
/-- A rule without its time. -/
def dateL (l : List UInt8) : Int × Int × Int × Int × List UInt8 × Bool :=
  if l.head? = some 77 then (0, weekL l.tail) else if l.head? = some 74 then (1, (numberL l.tail 3).1, 0, 0, (numberL l.tail 3).2) else (2, (numberL l 3).1, 0, 0, (numberL l 3).2)
theorem dateL_drop (l : List UInt8) : ∃ j, j ≤ l.length ∧ (dateL l).2.2.2.2.1 = l.drop j ∧ ((dateL l).2.2.2.2.2 = true → 0 < j) := by
  unfold dateL
  by_cases h : l.head? = some 77
  · rw [if_pos h]
    obtain ⟨a, r, rfl⟩ : ∃ a r, l = a :: r := by cases l with | nil => simp at h | cons a r => exact ⟨a, r, rfl⟩
    obtain ⟨j, hj, e, _⟩ := weekL_drop r
    exact ⟨j + 1, by simp; omega, e, fun _ => by omega⟩
  · rw [if_neg h]
    by_cases h' : l.head? = some 74
    · rw [if_pos h']
      obtain ⟨a, r, rfl⟩ : ∃ a r, l = a :: r := by cases l with | nil => simp at h' | cons a r => exact ⟨a, r, rfl⟩
      obtain ⟨j, hj, e, _⟩ := numberL_drop r 3
      exact ⟨j + 1, by simp; omega, e, fun _ => by omega⟩
    · rw [if_neg h']
      exact numberL_drop l 3
/-- A rule. -/
def parseL (l : List UInt8) : Int × Int × Int × Int × Int × List UInt8 × Bool :=
  if (dateL l).2.2.2.2.2 = true then
    (if (dateL l).2.2.2.2.1.head? = some 47 then
      (if (timeL (dateL l).2.2.2.2.1.tail).2.2 = true ∧ rightR (dateL l).1 (dateL l).2.1 (dateL l).2.2.1 (dateL l).2.2.2.1 (timeL (dateL l).2.2.2.2.1.tail).1 = true then
        ((dateL l).1, (dateL l).2.1, (dateL l).2.2.1, (dateL l).2.2.2.1, (timeL (dateL l).2.2.2.2.1.tail).1, (timeL (dateL l).2.2.2.2.1.tail).2.1, true) else (0, 0, 0, 0, 0, l, false))
    else if rightR (dateL l).1 (dateL l).2.1 (dateL l).2.2.1 (dateL l).2.2.2.1 7200 = true then
      ((dateL l).1, (dateL l).2.1, (dateL l).2.2.1, (dateL l).2.2.2.1, 7200, (dateL l).2.2.2.2.1, true) else (0, 0, 0, 0, 0, l, false))
  else (0, 0, 0, 0, 0, l, false)
theorem parse_good (l : List UInt8) (h : (parseL l).2.2.2.2.2.2 = true) :
    rightR (parseL l).1 (parseL l).2.1 (parseL l).2.2.1 (parseL l).2.2.2.1 (parseL l).2.2.2.2.1 = true ∧ ∃ j, 0 < j ∧ j ≤ l.length ∧ (parseL l).2.2.2.2.2.1 = l.drop j := by
  obtain ⟨j, hj, e, hp⟩ := dateL_drop l
  revert h
  unfold parseL
  by_cases hok : (dateL l).2.2.2.2.2 = true
  · have hp := hp hok
    rw [if_pos hok]
    by_cases hc : (dateL l).2.2.2.2.1.head? = some 47
    · rw [if_pos hc]
      by_cases hR : (timeL (dateL l).2.2.2.2.1.tail).2.2 = true ∧ rightR (dateL l).1 (dateL l).2.1 (dateL l).2.2.1 (dateL l).2.2.2.1 (timeL (dateL l).2.2.2.2.1.tail).1 = true
      · rw [if_pos hR]
        intro _
        obtain ⟨i, hi, ei, _⟩ := time_drop (dateL l).2.2.2.2.1.tail
        refine ⟨hR.2, j + 1 + i, by omega, ?_, ?_⟩
        · rw [List.length_tail, e, List.length_drop] at hi
          have : (dateL l).2.2.2.2.1.length ≠ 0 := by intro h0; rw [List.eq_nil_of_length_eq_zero h0] at hc; simp at hc
          rw [e, List.length_drop] at this
          omega
        · simp only []
          rw [ei, e, ← List.drop_one, List.drop_drop, List.drop_drop]
          congr 1; omega
      · rw [if_neg hR]; intro h; simp at h
    · rw [if_neg hc]
      by_cases hR : rightR (dateL l).1 (dateL l).2.1 (dateL l).2.2.1 (dateL l).2.2.2.1 7200 = true
      · rw [if_pos hR]
        intro _
        exact ⟨hR, j, hp, hj, e⟩
      · rw [if_neg hR]; intro h; simp at h
  · rw [if_neg hok]; intro h; simp at h
theorem parse_bad (l : List UInt8) (h : (parseL l).2.2.2.2.2.2 = false) : parseL l = (0, 0, 0, 0, 0, l, false) := by
  revert h
  unfold parseL
  split
  · split
    · split
      · intro h; simp at h
      · intro _; rfl
    · split
      · intro h; simp at h
      · intro _; rfl
  · intro _; rfl
/-- A rule's text. -/
def headL (K A B C : Int) : List UInt8 := if K = 0 then 77 :: (itoaK A ++ 46 :: (itoaK B ++ 46 :: itoaK C)) else if K = 1 then 74 :: itoaK A else itoaK A
def tailL (X : Int) : List UInt8 := if X = 7200 then [] else 47 :: (clockL X).1
def textL (K A B C X : Int) : List UInt8 × Bool := if rightR K A B C X = true then (headL K A B C ++ tailL X, true) else ([], false)
theorem itoaK_len (n : Int) : (itoaK n).length ≤ 21 := by
  unfold itoaK
  split
  · have := digsN_len 20 n.natAbs; simp; omega
  · have := digsN_len 20 n.toNat; omega
end Go.Proofs.YtodmkipcgfodkaaGreatDoor.Pl
end
section
set_option linter.unusedVariables false
set_option linter.unusedSimpArgs false
namespace Go.Proofs.YtodmkipcgfodkaaGreatDoor.Pl
open Go
set_option linter.unusedVariables false
set_option linter.unusedSimpArgs false
theorem isDig_iff (a : UInt8) : isDig a = true ↔ 48 ≤ a.toNat ∧ a.toNat ≤ 57 := by unfold isDig; simp
theorem valL_one (a : UInt8) : valL [a] = a.toNat - 48 := by simp [valL]
theorem valL_two (a b : UInt8) : valL [a, b] = 10 * (a.toNat - 48) + (b.toNat - 48) := by simp [valL]
end Go.Proofs.YtodmkipcgfodkaaGreatDoor.Pl
end
section
set_option linter.unusedVariables false
set_option linter.unusedSimpArgs false
namespace Go.Proofs.YtodmkipcgfodkaaGreatDoor.Pl
open Go Go.Proofs.YtodmkipcgfodkaaGreatDoor.Eng
set_option linter.unusedVariables false
theorem ifT {c : Prop} [Decidable c] {a b : Prop} (h : c) (ha : a) : if c then a else b := by rw [if_pos h]; exact ha
theorem ifF {c : Prop} [Decidable c] {a b : Prop} (h : ¬ c) (hb : b) : if c then a else b := by rw [if_neg h]; exact hb
theorem ifC {c : Prop} [Decidable c] {a b : Prop} (h1 : c → a) (h2 : ¬ c → b) : if c then a else b := by
  by_cases h : c
  · exact ifT h (h1 h)
  · exact ifF h (h2 h)
theorem w64_in {n : Int} (h0 : -9223372036854775808 ≤ n) (h1 : n ≤ 9223372036854775807) : w64 n = n := by
  simp only [w64, IntKind.wrap, IntKind.bits, IntKind.signed]
  try simp
  try omega
theorem bAt_S (l : List UInt8) (i : Nat) : Eng.bAt (S l) i = ((l.getD i 0).toNat : Int) := rfl
theorem bAt0 (c : UInt8) (l : List UInt8) : Eng.bAt (S (c :: l)) 0 = (c.toNat : Int) := rfl
theorem bAt1 (a c : UInt8) (l : List UInt8) : Eng.bAt (S (a :: c :: l)) 1 = (c.toNat : Int) := rfl
theorem lp_ind {α : Type} {F : (α → Prop) → α → Prop} (μ : α → Nat) (I : α → Prop) (h : ∀ x, I x → ∀ k : α → Prop, (∀ y, I y → μ y < μ x → k y) → F k x) {x : α} (hx : I x) : Eng.lp F x := by
  have key : ∀ n x, I x → μ x < n → itrT F n x := by
    intro n
    induction n with
    | zero => intro x _ hn; omega
    | succ n ih => intro x hx hn; exact h x hx _ fun y hy hlt => ih y hy (by omega)
  exact ⟨μ x + 1, key _ _ hx (Nat.lt_succ_self _)⟩
theorem lp_nat {α : Type} {F : (α → Prop) → α → Prop} (st : Nat → α) (N : Nat) (h : ∀ n, n ≤ N → ∀ k : α → Prop, (n < N → k (st (n + 1))) → F k (st n)) : Eng.lp F (st 0) := by
  have key : ∀ d n, n + d = N → itrT F (d + 1) (st n) := by
    intro d
    induction d with
    | zero => intro n hn; exact h n (by omega) _ fun hlt => by omega
    | succ d ih => intro n hn; exact h n (by omega) _ fun hlt => ih (n + 1) (by omega)
  exact ⟨N + 1, key N 0 (by omega)⟩
theorem lp_at {α : Type} {F : (α → Prop) → α → Prop} {x : α} (st : Nat → α) (N : Nat) (h0 : x = st 0) (h : ∀ n, n ≤ N → ∀ k : α → Prop, (n < N → k (st (n + 1))) → F k (st n)) : Eng.lp F x := by
  rw [h0]; exact lp_nat st N h
/-- How many of a list's first elements are not such. -/
def nl (q : UInt8 → Bool) (l : List UInt8) : Nat := (l.takeWhile fun c => !q c).length
theorem nl_le (q : UInt8 → Bool) (l : List UInt8) : nl q l ≤ l.length := by unfold nl; exact (List.takeWhile_sublist _).length_le
theorem nl_cons (q : UInt8 → Bool) (c : UInt8) (l : List UInt8) : nl q (c :: l) = if q c = true then 0 else nl q l + 1 := by
  unfold nl; rw [List.takeWhile_cons]; cases q c <;> simp
theorem nl_any (q : UInt8 → Bool) (l : List UInt8) : l.any q = decide (nl q l < l.length) := by
  induction l with
  | nil => rfl
  | cons c l ih =>
    rw [List.any_cons, nl_cons, ih]
    cases q c <;> simp
theorem nl_of (q : UInt8 → Bool) : ∀ (l : List UInt8) (k : Nat), k ≤ l.length → (∀ c ∈ l.take k, q c = false) → (∀ h : k < l.length, q l[k] = true) → nl q l = k
  | [], k, hk, _, _ => by simp at hk; subst hk; rfl
  | c :: l, 0, _, _, h => by
    have h0 : q c = true := h (by simp)
    rw [nl_cons, if_pos h0]
  | c :: l, k + 1, hk, h1, h2 => by
    have hc := h1 c (by simp)
    rw [nl_cons, if_neg (by rw [hc]; simp), nl_of q l k (by simpa using hk) (fun d hd => h1 d (by rw [List.take_succ_cons]; exact .tail _ hd)) (fun h => by have := h2 (by simpa using h); simpa using this)]
theorem nl_spec (q : UInt8 → Bool) : ∀ (l : List UInt8) (j : Nat) (h : j < l.length), (j < nl q l → q l[j] = false) ∧ (j = nl q l → q l[j] = true)
  | [], j, h => by simp at h
  | c :: l, 0, _ => by
    rw [nl_cons]
    cases hq : q c
    · exact ⟨fun _ => hq, fun h => by simp at h⟩
    · exact ⟨fun h => by simp at h, fun _ => hq⟩
  | c :: l, j + 1, h => by
    have ih := nl_spec q l j (by simpa using h)
    rw [nl_cons]
    cases hq : q c
    · simp only [Bool.false_eq_true, if_false, List.getElem_cons_succ]
      exact ⟨fun h => ih.1 (by omega), fun h => ih.2 (by omega)⟩
    · exact ⟨fun h => by simp at h, fun h => by simp at h⟩
theorem indexByte_nl (l : List UInt8) (c : UInt8) : Lib.indexByte l c = if nl (· == c) l < l.length then (nl (· == c) l : Int) else -1 := by
  induction l with
  | nil => rfl
  | cons b l ih =>
    rw [Lib.indexByte, nl_cons, ih]
    cases hb : (b == c)
    · simp only [Bool.false_eq_true, if_false, List.length_cons]
      by_cases h : nl (· == c) l < l.length
      · rw [if_pos h, if_neg (by simp), if_pos (by omega)]; omega
      · rw [if_neg h, if_pos (by simp), if_neg (by omega)]
    · simp
theorem decode_lo (l : List UInt8) (pos : Nat) (h : pos < l.length) (ha : l[pos].toNat < 128) : Utf8.decode (S l) pos = (l[pos].toNat, 1) := decode_ascii (S l) pos (by rw [S_size]; exact h) ha
theorem decode_hi (l : List UInt8) (pos : Nat) (h : pos < l.length) (ha : 128 ≤ l[pos].toNat) : 128 ≤ (Utf8.decode (S l) pos).1 ∧ 1 ≤ (Utf8.decode (S l) pos).2 := decode_high (S l) pos (by rw [S_size]; exact h) ha
end Go.Proofs.YtodmkipcgfodkaaGreatDoor.Pl
end
section
set_option linter.unusedVariables false
set_option linter.unusedSimpArgs false
namespace Go.Proofs.YtodmkipcgfodkaaGreatDoor.Pl
open Go
set_option linter.unusedVariables false
set_option linter.unusedSimpArgs false
/-- A text, cut at a sign. -/
def splitL (c : UInt8) (l : List UInt8) : List UInt8 × List UInt8 × Bool := if nl (· == c) l < l.length then (l.take (nl (· == c) l), l.drop (nl (· == c) l + 1), true) else (l, [], false)
/-- A sign that may not be in a name; one that is a letter; names of local times. -/
def badC (c : UInt8) : Bool := !((97 ≤ c.toNat && c.toNat ≤ 122) || (65 ≤ c.toNat && c.toNat ≤ 90) || (48 ≤ c.toNat && c.toNat ≤ 57) || c.toNat == 43 || c.toNat == 45)
def letC (c : UInt8) : Bool := (97 ≤ c.toNat && c.toNat ≤ 122) || (65 ≤ c.toNat && c.toNat ≤ 90)
def abbrL (l : List UInt8) : Bool := decide (3 ≤ l.length ∧ l.length ≤ 16) && !l.any badC
structure Ru where
  k : Int
  a : Int
  b : Int
  c : Int
  x : Int
def Ru.z : Ru := ⟨0, 0, 0, 0, 0⟩
def Ru.ok (r : Ru) : Bool := rightR r.k r.a r.b r.c r.x
def Ru.txt (r : Ru) : List UInt8 := (textL r.k r.a r.b r.c r.x).1
def Ru.at (r : Ru) (y : Int) : Int := ruleDay r.k r.a r.b r.c y * 86400 + r.x
structure Ft where
  so : Int
  sd : Bool
  sa : List UInt8
  wo : Int
  wd : Bool
  wa : List UInt8
  has : Bool
  fr : Ru
  to : Ru
def Ft.z : Ft := ⟨0, false, [], 0, false, [], false, .z, .z⟩
def kindR (o : Int) (d : Bool) (l : List UInt8) (w : Bool) : Bool := abbrL l && (d == w) && decide (-89999 ≤ o ∧ o ≤ 89999)
def Ft.bare (f : Ft) : Prop := f.wo = 0 ∧ f.wd = false ∧ f.wa = [] ∧ (f.fr.k = 0 ∧ f.fr.a = 0 ∧ f.fr.b = 0 ∧ f.fr.c = 0 ∧ f.fr.x = 0) ∧ (f.to.k = 0 ∧ f.to.a = 0 ∧ f.to.b = 0 ∧ f.to.c = 0 ∧ f.to.x = 0)
instance (f : Ft) : Decidable f.bare := inferInstanceAs (Decidable (_ ∧ _))
def Ft.ok (f : Ft) : Bool := kindR f.so f.sd f.sa false && (if f.has = true then kindR f.wo f.wd f.wa true && f.fr.ok && f.to.ok else decide f.bare)
def nameT (l : List UInt8) : List UInt8 := if l.any (fun c => !letC c) = true then 60 :: (l ++ [62]) else l
def Ft.txt (f : Ft) : List UInt8 := nameT f.sa ++ ((clockL (-f.so)).1 ++ (if f.has = true then nameT f.wa ++ ((if f.wo - f.so ≠ 3600 then (clockL (-f.wo)).1 else []) ++ 44 :: (f.fr.txt ++ 44 :: f.to.txt)) else []))
def Ft.text (f : Ft) : List UInt8 × Bool := if f.ok = true then (f.txt, true) else ([], false)
/-- A name that is read: it, whether it may be, what is behind it. -/
def nameP (l : List UInt8) : List UInt8 × Bool × List UInt8 :=
  if l.head? = some 60 then ((splitL 62 l.tail).1, (splitL 62 l.tail).2.2 && abbrL (splitL 62 l.tail).1, (splitL 62 l.tail).2.1)
  else (l.take (nl (fun c => !letC c) l), abbrL (l.take (nl (fun c => !letC c) l)), l.drop (nl (fun c => !letC c) l))
structure Us where
  ok : Bool
  rest : List UInt8
  o : Int
  a : List UInt8
def usualP (l : List UInt8) : Us := ⟨(nameP l).2.1 && (timeL (nameP l).2.2).2.2, (timeL (nameP l).2.2).2.1, -(timeL (nameP l).2.2).1, (nameP l).1⟩
def summerP (so : Int) (l : List UInt8) : Us :=
  if (timeL (nameP l).2.2).2.2 = true then ⟨(nameP l).2.1, (timeL (nameP l).2.2).2.1, -(timeL (nameP l).2.2).1, (nameP l).1⟩ else ⟨(nameP l).2.1, (nameP l).2.2, so + 3600, (nameP l).1⟩
structure Rp where
  ok : Bool
  rest : List UInt8
  r : Ru
def ruleP (l : List UInt8) : Rp := ⟨(parseL (cutP 44 l).1).2.2.2.2.2.2 && (cutP 44 l).2, (parseL (cutP 44 l).1).2.2.2.2.2.1, ⟨(parseL (cutP 44 l).1).1, (parseL (cutP 44 l).1).2.1, (parseL (cutP 44 l).1).2.2.1, (parseL (cutP 44 l).1).2.2.2.1, (parseL (cutP 44 l).1).2.2.2.2.1⟩⟩
def Ft.chk (f : Ft) : Ft × Bool := if f.ok = true then (f, true) else (.z, false)
def Ft.parse (l : List UInt8) : Ft × Bool :=
  if (usualP l).ok = true then
    (if (usualP l).rest = [] then Ft.chk ⟨(usualP l).o, false, (usualP l).a, 0, false, [], false, .z, .z⟩
    else if (summerP (usualP l).o (usualP l).rest).ok = true then
      (if (ruleP (summerP (usualP l).o (usualP l).rest).rest).ok = true then
        (if (ruleP (ruleP (summerP (usualP l).o (usualP l).rest).rest).rest).ok = true then
          (if (ruleP (ruleP (summerP (usualP l).o (usualP l).rest).rest).rest).rest = [] then
            Ft.chk ⟨(usualP l).o, false, (usualP l).a, (summerP (usualP l).o (usualP l).rest).o, true, (summerP (usualP l).o (usualP l).rest).a, true, (ruleP (summerP (usualP l).o (usualP l).rest).rest).r, (ruleP (ruleP (summerP (usualP l).o (usualP l).rest).rest).rest).r⟩
          else (.z, false)) else (.z, false)) else (.z, false)) else (.z, false))
  else (.z, false)
/-- When the summer's time holds in a year. -/
def Ft.spans (f : Ft) (y : Int) : Prop := f.has = true ∧ f.ok = true ∧ 1 ≤ y ∧ y ≤ 9999
instance (f : Ft) (y : Int) : Decidable (f.spans y) := inferInstanceAs (Decidable (_ ∧ _))
def Ft.from' (f : Ft) (y : Int) : Int := f.fr.at y - f.so
def Ft.to' (f : Ft) (y : Int) : Int := f.to.at y - f.wo
/-- Whether a second's year is known; whether the summer's time holds. -/
def inDays (n : Int) : Prop := -719162 ≤ n / 86400 ∧ n / 86400 ≤ 2932896
instance (n : Int) : Decidable (inDays n) := inferInstanceAs (Decidable (_ ∧ _))
def Ft.sum (f : Ft) (p : Int) : Prop := inDays (p + f.so) ∧ f.spans (yearP ((p + f.so) / 86400)) ∧
  ((f.from' (yearP ((p + f.so) / 86400)) ≤ p ∧ p < f.to' (yearP ((p + f.so) / 86400))) ∨ (f.to' (yearP ((p + f.so) / 86400)) ≤ f.from' (yearP ((p + f.so) / 86400)) ∧ (f.from' (yearP ((p + f.so) / 86400)) ≤ p ∨ p < f.to' (yearP ((p + f.so) / 86400)))))
instance (f : Ft) (p : Int) : Decidable (f.sum p) := inferInstanceAs (Decidable (_ ∧ _))
end Go.Proofs.YtodmkipcgfodkaaGreatDoor.Pl
end
section
set_option linter.unusedVariables false
set_option linter.unusedSimpArgs false
namespace Go.Proofs.YtodmkipcgfodkaaGreatDoor.Pl
open Go
set_option linter.unusedVariables false
set_option linter.unusedSimpArgs false
theorem kind_all {o : Int} {d : Bool} {l : List UInt8} {w : Bool} : kindR o d l w = true ↔ abbrL l = true ∧ d = w ∧ -89999 ≤ o ∧ o ≤ 89999 := by
  unfold kindR; simp [and_assoc]
theorem parse_ok (l : List UInt8) : (Ft.parse l).2 = true → (Ft.parse l).1.ok = true := by
  have hc : ∀ f : Ft, f.chk.2 = true → f.chk.1.ok = true := fun f h => by
    unfold Ft.chk at *
    split at h
    · rename_i e; rw [if_pos e]; exact e
    · cases h
  unfold Ft.parse
  repeat' split
  all_goals first | exact hc _ | (intro h; cases h)
end Go.Proofs.YtodmkipcgfodkaaGreatDoor.Pl
end
section
set_option linter.unusedVariables false
set_option linter.unusedSimpArgs false
namespace Go.Proofs.YtodmkipcgfodkaaGreatDoor.Pl
open Go Go.Proofs.YtodmkipcgfodkaaGreatDoor.Eng
set_option linter.unusedVariables false
set_option linter.unusedSimpArgs false
/-- The first place at which it holds, or the end. -/
def fl {α : Type} (q : α → Bool) : List α → Nat
  | [] => 0
  | x :: l => if q x = true then 0 else fl q l + 1
theorem fl_le {α : Type} (q : α → Bool) : ∀ l : List α, fl q l ≤ l.length
  | [] => Nat.le_refl _
  | x :: l => by
    rw [fl]
    split
    · omega
    · have := fl_le q l; simp; omega
theorem fl_spec {α : Type} (q : α → Bool) : ∀ (l : List α) (j : Nat) (h : j < l.length), (j < fl q l → q l[j] = false) ∧ (j = fl q l → q l[j] = true)
  | [], j, h => by simp at h
  | x :: l, 0, _ => by
    rw [fl]
    cases hq : q x
    · exact ⟨fun _ => hq, fun h => by simp at h⟩
    · exact ⟨fun h => by simp at h, fun _ => hq⟩
  | x :: l, j + 1, h => by
    have ih := fl_spec q l j (by simpa using h)
    rw [fl]
    cases hq : q x
    · simp only [Bool.false_eq_true, if_false, List.getElem_cons_succ]
      exact ⟨fun h => ih.1 (by omega), fun h => ih.2 (by omega)⟩
    · exact ⟨fun h => by simp at h, fun h => by simp at h⟩
theorem fl_of {α : Type} (q : α → Bool) (l : List α) (k : Nat) (hk : k ≤ l.length) (h1 : ∀ i (h : i < l.length), i < k → q l[i] = false) (h2 : ∀ h : k < l.length, q l[k] = true) : fl q l = k := by
  have hle := fl_le q l
  rcases Nat.lt_trichotomy (fl q l) k with h | h | h
  · have h3 : fl q l < l.length := by omega
    have := h1 _ h3 h
    rw [(fl_spec q l _ h3).2 rfl] at this
    cases this
  · exact h
  · have h3 : k < l.length := by omega
    have := (fl_spec q l k h3).1 h
    rw [h2 h3] at this
    cases this
abbrev Rec := Int × Int
/-- Records but the expiry. -/
def lastExp (l : List Rec) : Bool := (decide (l.length = 1) && (l.getD 0 (0, 0)).2 == 0) || (decide (1 < l.length) && (l.getD (l.length - 1) (0, 0)).2 == (l.getD (l.length - 2) (0, 0)).2)
def leapsR (l : List Rec) : List Rec := if lastExp l = true then l.take (l.length - 1) else l
def sumR (l : List Rec) (at' : Int) : Int := match ((leapsR l).take (fl (fun c : Rec => decide (c.1 > at')) (leapsR l))).getLast? with
  | none => 0
  | some c => c.2
def stepR (l : List Rec) (at' : Int) : Int := sumR l at' - sumR l (at' - 1)
/-- Whether records are right; how many are ahead, and the one ahead. -/
def recOk : Nat → Rec → List Rec → Bool
  | _, _, [] => true
  | k, b, c :: r =>
    let e := decide (c.2 - b.2 = 0) && r.isEmpty
    decide (k ≤ 200) && decide (0 ≤ c.1) && (e || decide (c.2 - b.2 = 1) || decide (c.2 - b.2 = -1)) && (decide (k = 0) || decide (c.1 - b.1 ≥ if e = true then 0 else 2419199)) && recOk (k + 1) c r
def recRight (l : List Rec) : Bool := recOk 0 (-2419199, 0) l
abbrev Ty := Int × Bool × List UInt8
structure Zn where
  ty : List Ty
  tr : List Rec
  lp : List Rec
  ft : List UInt8
  v : Int
def eTy (t : Ty) : V := .agg [.c (.int .i64 t.1), .c (.bool t.2.1), .c (.string (S t.2.2))]
def eRec (c : Rec) : V := .agg [.c (.int .i64 c.1), .c (.int .i64 c.2)]
def tupZ (z : Zn) : List V × List V × List V × ByteArray × Int × Unit := (z.ty.map eTy, z.tr.map eRec, z.lp.map eRec, S z.ft, z.v, ())
/-- Names, each once, with an end behind each. -/
def poolN : List (List UInt8) → List (List UInt8) → Nat
  | _, [] => 0
  | had, s :: r => if had.contains s = true then poolN had r else s.length + 1 + poolN (s :: had) r
def nin (n a b : Int) : Bool := decide (a ≤ n ∧ n ≤ b)
def countOk (z : Zn) : Bool := (z.ty.map (·.2.2)).all abbrL && decide (poolN [] (z.ty.map (·.2.2)) ≤ 256) && nin z.lp.length 0 201 && nin z.tr.length 0 2000 && nin z.ty.length 1 64 && nin (poolN [] (z.ty.map (·.2.2))) 1 256 && nin z.v 1 4
def oddR (x : Int) : Bool := decide (x < 0) || decide (x > 86400)
def endsOk (z : Zn) : Bool := z.ft.isEmpty || ((Ft.parse z.ft).2 && decide (z.v ≥ if (oddR (Ft.parse z.ft).1.fr.x || oddR (Ft.parse z.ft).1.to.x) = true then 3 else 2))
def trOk (n : Nat) : Option Int → List Rec → Bool
  | _, [] => true
  | b, c :: r => decide (0 ≤ c.2 ∧ c.2 < n) && (match b with | none => true | some a => decide (c.1 > a)) && trOk n (some c.1) r
def zoneRight (z : Zn) : Bool := countOk z && recRight z.lp && (!lastExp z.lp || decide (z.v ≥ 4)) && z.ty.all (fun t => decide (-89999 ≤ t.1 ∧ t.1 ≤ 93599)) && trOk z.ty.length none z.tr && endsOk z
def indexN (z : Zn) (at' : Int) : Nat := fl (fun c : Rec => decide (c.1 > at')) z.tr
def posixR (z : Zn) (at' : Int) : Int := w64 (at' - sumR z.lp at')
def Ft.look (f : Ft) (p : Int) : Ty := if f.sum p then (f.wo, f.wd, f.wa) else (f.so, f.sd, f.sa)
def lookZ (z : Zn) (at' : Int) : Ty :=
  if z.ft ≠ [] ∧ indexN z at' = z.tr.length then (Ft.parse z.ft).1.look (posixR z at')
  else match (z.tr.take (indexN z at')).getLast? with
    | none => z.ty.headD (0, false, [])
    | some c => z.ty.getD c.2.toNat (0, false, [])
end Go.Proofs.YtodmkipcgfodkaaGreatDoor.Pl
end
section
set_option linter.unusedVariables false
set_option linter.unusedSimpArgs false
namespace Go.Proofs.YtodmkipcgfodkaaGreatDoor.Pl
open Go Go.Proofs.YtodmkipcgfodkaaGreatDoor.Eng
set_option linter.unusedVariables false
set_option linter.unusedSimpArgs false
abbrev W32 := BitVec 32
theorem wu8_in {n : Int} (h0 : 0 ≤ n) (h1 : n ≤ 255) : wu8 n = n := by
  simp only [wu8, IntKind.wrap, IntKind.bits, IntKind.signed]
  try simp
  try omega
def rotl (x : W32) (k : Nat) : W32 := x <<< k ||| x >>> (32 - k)
/-- The words of a block: sixteen, then those that are mixed. -/
def sched : Nat → List W32 → List W32
  | 0, l => l
  | n + 1, l => sched n (l ++ [rotl (l.getD (l.length - 3) 0 ^^^ l.getD (l.length - 8) 0 ^^^ l.getD (l.length - 14) 0 ^^^ l.getD (l.length - 16) 0) 1])
def next (l : List W32) : List W32 := l ++ [rotl (l.getD (l.length - 3) 0 ^^^ l.getD (l.length - 8) 0 ^^^ l.getD (l.length - 14) 0 ^^^ l.getD (l.length - 16) 0) 1]
def word (b : List UInt8) (i : Nat) : W32 := b.foldl (fun w c => w <<< 8 ||| BitVec.ofNat 32 c.toNat) 0
def wordAt (b : List UInt8) (i : Nat) : W32 := word ((b.drop (4 * i)).take 4) 0
def first (b : List UInt8) (n : Nat) : List W32 := (List.range n).map (wordAt b)
structure St5 where
  a : W32
  b : W32
  c : W32
  d : W32
  e : W32
def s0 : St5 := ⟨1732584193#32, 4023233417#32, 2562383102#32, 271733878#32, 3285377520#32⟩
def St5.at (s : St5) (i : Nat) : W32 := match i with | 0 => s.a | 1 => s.b | 2 => s.c | 3 => s.d | _ => s.e
end Go.Proofs.YtodmkipcgfodkaaGreatDoor.Pl
end
section
set_option linter.unusedVariables false
set_option linter.unusedSimpArgs false
namespace Go.Proofs.YtodmkipcgfodkaaGreatDoor.Pl
open Go Go.Proofs.YtodmkipcgfodkaaGreatDoor.Eng
set_option linter.unusedVariables false
set_option linter.unusedSimpArgs false
def blankB (c : UInt8) : Bool := c == 32 || c == 9
/-- Words. -/
def wd : List UInt8 → List UInt8 → List (List UInt8)
  | cur, [] => if cur = [] then [] else [cur]
  | cur, c :: r => if blankB c = true then (if cur = [] then wd [] r else cur :: wd [] r) else wd (cur ++ [c]) r
/-- A number of a text. -/
def numL (l : List UInt8) : Int × Bool := if l ≠ [] ∧ l.all isDig = true ∧ valL l ≤ 9223372036854775807 then ((valL l : Int), true) else (0, false)
def two (l : List UInt8) : Bool := (numL l).2 && decide (l.length ≤ 2)
/-- Leaps: the day, the step, whether of local time; and tables. -/
abbrev LR := Int × Int × Bool
structure Tb where
  ls : List LR
  has : Bool
  ex : Int
deriving DecidableEq
def eLR (l : LR) : V := .agg [.c (.int .i64 l.1), .c (.int .i64 l.2.1), .c (.bool l.2.2)]
def endD (n : Int) : Bool := decide (-719162 ≤ n ∧ n ≤ 2932896) && (dayP n == dim (yearP n) (monP n))
def wrongL (k : Nat) (l : LR) (ahead : Int) : Int :=
  if 200 ≤ k then 8 else if l.1 < 730 ∨ 2932896 ≤ l.1 then 9 else if endD l.1 = false then 5 else if l.2.1 ≠ 1 ∧ l.2.1 ≠ -1 then 6 else if l.1 ≤ ahead then 4 else 0
/-- The first wrong leap, what is wrong of it, the last day ahead. -/
def checkG : Nat → Int → List LR → Nat × Int × Int
  | k, ahead, [] => (k, 0, ahead)
  | k, ahead, l :: r => if wrongL k l ahead ≠ 0 then (k, wrongL k l ahead, ahead) else checkG (k + 1) l.1 r
def expB (has : Bool) (ex ahead : Int) : Int :=
  if has = true then (if ex < (if 63072000 > (ahead + 1) * 86400 then 63072000 else (ahead + 1) * 86400) ∨ 253402300799 < ex then 9 else 0) else if ex ≠ 0 then 9 else 0
def checkT (t : Tb) : Nat × Int := if (checkG 0 729 t.ls).2.1 ≠ 0 then ((checkG 0 729 t.ls).1, (checkG 0 729 t.ls).2.1) else (t.ls.length, expB t.has t.ex (checkG 0 729 t.ls).2.2)
def rightT (t : Tb) : Bool := (checkT t).2 == 0
/-- A line: its kind, its date, its second, and what a leap has beside. -/
structure Row where
  kind : Int
  y : Int
  m : Int
  d : Int
  sec : Int
  sign : List UInt8
  roll : Bool
/-- What is read so far: the table (without an expiry), the line of the expiry, and what it says. -/
structure Src where
  ls : List LR
  at' : Int
  til : Int
def tb0 : Tb := ⟨[], false, 0⟩
theorem kS_nil (l : List UInt8) : (ByteArray.toList (S l) == ByteArray.toList (ByteArray.mk #[])) = l.isEmpty := by
  rw [S_toList, show ByteArray.toList (ByteArray.mk #[]) = [] from S_toList []]
  cases l <;> rfl
/-- Bytes, one by one. -/
def B8 (l : List UInt8) : List V := l.map fun b => .c (.int .u8 b.toNat)
theorem B8_len (l : List UInt8) : (B8 l).length = l.length := by simp [B8]
theorem bytesV_S (l : List UInt8) : Eng.bytesV (S l) = B8 l := by simp [Eng.bytesV, B8]
theorem asB8 {l : List UInt8} {i : Nat} (h : i < l.length) {F : Prop} {K : Int → Prop} (hk : K (l[i].toNat : Int)) : Eng.asInt .u8 (getC (B8 l) i 0) F K := by
  have : getC (B8 l) i 0 = some (.c (.int .u8 (l[i].toNat : Int))) := by simp [getC, B8, V.cells, h]
  rw [this]; simpa [Eng.asInt] using hk
theorem B8_all (l : List UInt8) : Eng.allU8 (B8 l) = true := by
  simp [Eng.allU8, B8, Eng.isU8]
theorem B8_pack (l : List UInt8) : Eng.packB (B8 l) = S l := by
  have : (l.map fun b => V.c (.int .u8 (b.toNat : Int))).map Eng.byteOf = l := by
    rw [List.map_map]
    conv => rhs; rw [← List.map_id l]
    refine List.map_congr_left fun b _ => ?_
    simp [Eng.byteOf]
  unfold Eng.packB B8
  rw [this]
theorem kS_eq (l m : List UInt8) : (ByteArray.toList (S l) == ByteArray.toList (S m)) = (l == m) := by rw [S_toList, S_toList]
theorem dneg {p : Prop} [Decidable p] (h : ¬ p) : ¬ (decide p = true) := by simpa using h
def TLV (l : List LR) : List V := l.map eLR
theorem TLV_len (l : List LR) : (TLV l).length = l.length := by simp [TLV]
theorem asL1 {l : List LR} {i : Nat} (h : i < l.length) {F : Prop} {K : Int → Prop} (hk : K (l[i]).1) : Eng.asInt .i64 (getC (TLV l) i 0) F K := by
  have : getC (TLV l) i 0 = some (.c (.int .i64 (l[i]).1)) := by simp [getC, TLV, eLR, V.cells, h]
  rw [this]; simpa [Eng.asInt] using hk
theorem asL2 {l : List LR} {i : Nat} (h : i < l.length) {F : Prop} {K : Int → Prop} (hk : K (l[i]).2.1) : Eng.asInt .i64 (getC (TLV l) i 1) F K := by
  have : getC (TLV l) i 1 = some (.c (.int .i64 (l[i]).2.1)) := by simp [getC, TLV, eLR, V.cells, h]
  rw [this]; simpa [Eng.asInt] using hk
theorem asL3 {l : List LR} {i : Nat} (h : i < l.length) {F : Prop} {K : Bool → Prop} (hk : K (l[i]).2.2) : Eng.asBool (getC (TLV l) i 2) F K := by
  have : getC (TLV l) i 2 = some (.c (.bool (l[i]).2.2)) := by simp [getC, TLV, eLR, V.cells, h]
  rw [this]; simpa [Eng.asBool] using hk
theorem wrongL_0 {k : Nat} {l : LR} {a : Int} (h : wrongL k l a = 0) : k < 200 ∧ 730 ≤ l.1 ∧ l.1 < 2932896 ∧ endD l.1 = true ∧ (l.2.1 = 1 ∨ l.2.1 = -1) ∧ a < l.1 := by
  unfold wrongL at h
  split at h; · omega
  split at h; · omega
  split at h; · omega
  split at h; · omega
  split at h; · omega
  rename_i h1 h2 h3 h4 h5
  refine ⟨by omega, by omega, by omega, by simpa using h3, by omega, by omega⟩
end Go.Proofs.YtodmkipcgfodkaaGreatDoor.Pl
end
section
set_option linter.unusedVariables false
set_option linter.unusedSimpArgs false
namespace Go.Proofs.YtodmkipcgfodkaaGreatDoor.Pl
open Go Go.Proofs.YtodmkipcgfodkaaGreatDoor.Eng
set_option linter.unusedVariables false
set_option linter.unusedSimpArgs false
def dd (n : Int) : List UInt8 := [UInt8.ofNat (48 + (n / 10 % 10).toNat), UInt8.ofNat (48 + (n % 10).toNat)]
def hms (x : Int) : List UInt8 := dd (x / 3600) ++ 58 :: (dd (x / 60 % 60) ++ 58 :: dd (x % 60))
theorem checkG_all : ∀ (p : List LR) (k : Nat) (a : Int), (checkG k a p).2.1 = 0 → ∀ l ∈ p, 730 ≤ l.1 ∧ l.1 < 2932896 ∧ (l.2.1 = 1 ∨ l.2.1 = -1)
  | [], k, a, h, l, hl => by cases hl
  | x :: p, k, a, h, l, hl => by
    rw [checkG] at h
    split at h
    · rename_i hw; exact absurd h hw
    · rename_i hw
      have hw : wrongL k x a = 0 := by omega
      obtain ⟨_, q1, q2, _, q3, _⟩ := wrongL_0 hw
      cases hl with
      | head => exact ⟨q1, q2, q3⟩
      | tail _ hl => exact checkG_all p _ _ h l hl
theorem right_0 {t : Tb} (h : rightT t = true) : (checkG 0 729 t.ls).2.1 = 0 ∧ expB t.has t.ex (checkG 0 729 t.ls).2.2 = 0 := by
  unfold rightT checkT at h
  rw [beq_iff_eq] at h
  split at h
  · rename_i hw; exact absurd h hw
  · rename_i hw; exact ⟨by omega, h⟩
theorem right_ex {t : Tb} (h : rightT t = true) : (t.has = false → t.ex = 0) ∧ (t.has = true → 63072000 ≤ t.ex ∧ t.ex ≤ 253402300799) := by
  obtain ⟨h1, h2⟩ := right_0 h
  unfold expB at h2
  constructor
  · intro hh
    rw [hh, if_neg (by simp)] at h2
    split at h2 <;> omega
  · intro hh
    rw [hh, if_pos rfl] at h2
    split at h2
    · omega
    · split at h2 <;> omega
end Go.Proofs.YtodmkipcgfodkaaGreatDoor.Pl
end
section
set_option linter.unusedVariables false
set_option linter.unusedSimpArgs false
namespace Go.Proofs.YtodmkipcgfodkaaGreatDoor.Pl
open Go Go.Proofs.YtodmkipcgfodkaaGreatDoor.Eng
set_option linter.unusedVariables false
set_option linter.unusedSimpArgs false
def midL (l : LR) : Int := (l.1 + 1) * 86400
/-- When a leap is, without those ahead of it. -/
def instR (z : Zn) (l : LR) : Int := if l.2.2 = true then midL l - (lookZ z (midL l - 1)).1 else midL l
def recG (z : Zn) : Int → List LR → List Rec
  | _, [] => []
  | s, l :: r => (instR z l + s + min l.2.1 0, s + l.2.1) :: recG z (s + l.2.1) r
def stepsL (ls : List LR) : Int := (ls.map (·.2.1)).sum
def recAll (z : Zn) (t : Tb) : List Rec := recG z 0 t.ls ++ (if t.has = true then [(t.ex + stepsL t.ls, stepsL t.ls)] else [])
/-- What is wrong of records. -/
def recErr : Nat → Rec → List Rec → Int
  | _, _, [] => 0
  | k, b, c :: r =>
    if 200 < k then 8 else if c.1 < 0 then 9 else if (decide (c.2 - b.2 = 0) && r.isEmpty) = false ∧ c.2 - b.2 ≠ 1 ∧ c.2 - b.2 ≠ -1 then 6
    else if 0 < k ∧ c.1 - b.1 < (if (decide (c.2 - b.2 = 0) && r.isEmpty) = true then 0 else 2419199) then 7 else recErr (k + 1) c r
def recE (l : List Rec) : Int := recErr 0 (-2419199, 0) l
def inI (n : Int) : Prop := -9223372036854775808 ≤ n ∧ n ≤ 9223372036854775807
instance (n : Int) : Decidable (inI n) := by unfold inI; infer_instance
def shiftS (z : Zn) (ls : List LR) (p : Int) : Int := ((ls.filter fun l => decide (instR z l ≤ p)).map (·.2.1)).sum
def shiftR (z : Zn) (ls : List LR) (p : Int) : Int × Bool := if inI (p + shiftS z ls p) then (p + shiftS z ls p, true) else (0, false)
def zn0 : Zn := ⟨[], [], [], [], 0⟩
def rising : List Rec → Bool
  | [] => true
  | [_] => true
  | a :: b :: r => decide (a.1 < b.1) && rising (b :: r)
def stepT (ls : List LR) (i : Nat) : Int := (ls.getD i (0, 0, false)).2.1
def sumT (ls : List LR) (i : Nat) : Int := stepsL (ls.take i)
theorem stepsL_cons (l : LR) (r : List LR) : stepsL (l :: r) = l.2.1 + stepsL r := by simp [stepsL]
theorem stepsL_app (a b : List LR) : stepsL (a ++ b) = stepsL a + stepsL b := by simp [stepsL]
theorem sumT_succ {ls : List LR} {i : Nat} (h : i < ls.length) : sumT ls (i + 1) = sumT ls i + stepT ls i := by
  unfold sumT stepT
  rw [List.take_succ_eq_append_getElem h, stepsL_app, List.getD, List.getElem?_eq_getElem h]; simp [stepsL]
theorem recG_len (z : Zn) : ∀ (ls : List LR) (s : Int), (recG z s ls).length = ls.length
  | [], _ => rfl
  | l :: r, s => by rw [recG, List.length_cons, List.length_cons, recG_len z r]
theorem recG_get (z : Zn) : ∀ (ls : List LR) (s : Int) (i : Nat) (h : i < ls.length) (h' : i < (recG z s ls).length),
    (recG z s ls)[i] = (instR z ls[i] + (s + sumT ls i) + min (stepT ls i) 0, s + sumT ls (i + 1))
  | l :: r, s, 0, h, h' => by simp [recG, sumT, stepT, stepsL]
  | l :: r, s, i + 1, h, h' => by
    have hr : i < r.length := by simpa using h
    have := recG_get z r (s + l.2.1) i hr (by rw [recG_len]; exact hr)
    simp only [recG, List.getElem_cons_succ]
    rw [this]
    unfold sumT stepT
    rw [List.take_succ_cons, List.take_succ_cons, stepsL_cons, stepsL_cons]
    simp [Int.add_assoc]
theorem recOk_gaps : ∀ (l : List Rec) (k : Nat) (b : Rec), recOk k b l = true → ∀ i (h : i < l.length), 0 ≤ (l[i]).1 ∧ k + i ≤ 200 ∧ ∀ h' : i + 1 < l.length, (l[i + 1]).1 - (l[i]).1 ≥ (if (l[i + 1]).2 - (l[i]).2 = 0 ∧ i + 2 = l.length then 0 else 2419199)
  | c :: r, k, b, h, i, hi => by
    rw [recOk] at h
    simp only [Bool.and_eq_true, decide_eq_true_eq] at h
    obtain ⟨⟨⟨⟨h1, h2⟩, h3⟩, h4⟩, h5⟩ := h
    cases i with
    | zero =>
      refine ⟨h2, by omega, fun h' => ?_⟩
      cases r with
      | nil => simp at h'
      | cons d q =>
        rw [recOk] at h5
        simp only [Bool.and_eq_true, decide_eq_true_eq, Bool.or_eq_true] at h5
        have g := h5.1.2
        simp only [List.getElem_cons_succ, List.getElem_cons_zero, List.length_cons]
        have g : d.1 - c.1 ≥ if d.2 - c.2 = 0 ∧ q.isEmpty = true then 0 else 2419199 := by
          rcases g with g | g
          · omega
          · exact g
        cases q with
        | nil => simpa using g
        | cons x y =>
          have g' : ¬ (d.2 - c.2 = 0 ∧ (x :: y).isEmpty = true) := by simp
          rw [if_neg g'] at g
          rw [if_neg (by simp)]; exact g
    | succ i =>
      have hi' : i < r.length := by simpa using hi
      obtain ⟨g1, g2, g3⟩ := recOk_gaps r (k + 1) c h5 i hi'
      refine ⟨by simpa using g1, by omega, fun h' => ?_⟩
      have := g3 (by simpa using h')
      simp only [List.getElem_cons_succ, List.length_cons]
      by_cases q : (r[i + 1]'(by simpa using h')).2 - (r[i]).2 = 0 ∧ i + 2 = r.length
      · rw [if_pos q] at this; rw [if_pos ⟨q.1, by omega⟩]; exact this
      · rw [if_neg q] at this; rw [if_neg (fun hh => q ⟨hh.1, by omega⟩)]; exact this
theorem recG_lastcorr (z : Zn) : ∀ (ls : List LR) (s : Int), ls ≠ [] → ((recG z s ls).getD (ls.length - 1) (0, 0)).2 = s + stepsL ls := fun ls s h => by
  have hp : 0 < ls.length := List.length_pos_iff.2 h
  have h' : ls.length - 1 < (recG z s ls).length := by rw [recG_len]; omega
  rw [List.getD, List.getElem?_eq_getElem h', Option.getD_some, recG_get z ls s (ls.length - 1) (by omega) h']
  show s + sumT ls (ls.length - 1 + 1) = _
  rw [show ls.length - 1 + 1 = ls.length by omega]
  unfold sumT; rw [List.take_length]
theorem getD_app_lt {α : Type} (a b : List α) (d : α) (i : Nat) (h : i < a.length) : (a ++ b).getD i d = a.getD i d := by
  simp only [List.getD]; rw [List.getElem?_append_left h]
theorem leapsR_all (z : Zn) (t : Tb) (hst : ∀ l ∈ t.ls, l.2.1 = 1 ∨ l.2.1 = -1) : leapsR (recAll z t) = recG z 0 t.ls ∧ (lastExp (recAll z t) = t.has) := by
  have key : lastExp (recAll z t) = t.has := by
    unfold recAll
    cases hh : t.has
    · rw [if_neg (by simp), List.append_nil]
      unfold lastExp
      rw [recG_len]
      have s1 : t.ls.length = 1 → ((recG z 0 t.ls).getD 0 (0, 0)).2 ≠ 0 := fun e => by
        have h' : 0 < (recG z 0 t.ls).length := by rw [recG_len]; omega
        rw [List.getD, List.getElem?_eq_getElem h', Option.getD_some, recG_get z t.ls 0 0 (by omega) h']
        have := hst _ (List.getElem_mem (show 0 < t.ls.length by omega))
        have e2 := sumT_succ (ls := t.ls) (i := 0) (by omega)
        have e3 : stepT t.ls 0 = (t.ls[0]'(by omega)).2.1 := by unfold stepT; rw [List.getD, List.getElem?_eq_getElem (by omega)]; rfl
        have e4 : sumT t.ls 0 = 0 := rfl
        simp only
        omega
      have s2 : 1 < t.ls.length → ((recG z 0 t.ls).getD (t.ls.length - 1) (0, 0)).2 ≠ ((recG z 0 t.ls).getD (t.ls.length - 2) (0, 0)).2 := fun e => by
        have h1 : t.ls.length - 1 < (recG z 0 t.ls).length := by rw [recG_len]; omega
        have h2 : t.ls.length - 2 < (recG z 0 t.ls).length := by rw [recG_len]; omega
        rw [List.getD, List.getElem?_eq_getElem h1, Option.getD_some, recG_get z t.ls 0 _ (by omega) h1, List.getD, List.getElem?_eq_getElem h2, Option.getD_some, recG_get z t.ls 0 _ (by omega) h2]
        have := hst _ (List.getElem_mem (show t.ls.length - 1 < t.ls.length by omega))
        have e2 := sumT_succ (ls := t.ls) (i := t.ls.length - 1) (by omega)
        have e3 : stepT t.ls (t.ls.length - 1) = (t.ls[t.ls.length - 1]'(by omega)).2.1 := by unfold stepT; rw [List.getD, List.getElem?_eq_getElem (by omega)]; rfl
        rw [show t.ls.length - 2 + 1 = t.ls.length - 1 by omega]
        simp only
        omega
      rw [Bool.or_eq_false_iff, Bool.and_eq_false_iff, Bool.and_eq_false_iff]
      constructor
      · by_cases e : t.ls.length = 1
        · exact .inr (by simpa using s1 e)
        · exact .inl (by simpa using e)
      · by_cases e : 1 < t.ls.length
        · exact .inr (by simpa using s2 e)
        · exact .inl (by simpa using e)
    · rw [if_pos rfl]
      unfold lastExp
      rw [List.length_append, recG_len, List.length_singleton, Nat.add_sub_cancel]
      have l0 : (recG z 0 t.ls ++ [(t.ex + stepsL t.ls, stepsL t.ls)]).getD t.ls.length (0, 0) = (t.ex + stepsL t.ls, stepsL t.ls) := by
        have : t.ls.length = (recG z 0 t.ls).length := by rw [recG_len]
        simp only [List.getD]
        rw [this, List.getElem?_append_right (Nat.le_refl _)]; simp
      by_cases e : t.ls = []
      · rw [e]; simp [recG, stepsL]
      · have hp : 0 < t.ls.length := List.length_pos_iff.2 e
        rw [l0, show t.ls.length + 1 - 2 = t.ls.length - 1 by omega, getD_app_lt _ _ _ (t.ls.length - 1) (by rw [recG_len]; omega), recG_lastcorr z t.ls 0 e]
        have : decide (1 < t.ls.length + 1) = true := decide_eq_true (by omega)
        rw [this]
        simp
  refine ⟨?_, key⟩
  unfold leapsR
  rw [key]
  unfold recAll
  cases t.has
  · simp
  · rw [if_pos rfl, if_pos rfl, List.length_append, List.length_singleton, Nat.add_sub_cancel, List.take_left']
    rfl
theorem getLast_take {α : Type} (l : List α) (n : Nat) (h : n ≤ l.length) : (l.take n).getLast? = if n = 0 then none else l[n - 1]? := by
  rw [List.getLast?_take]
  split
  · rfl
  · rw [List.getElem?_eq_getElem (by omega)]; simp
theorem sumR_all (z : Zn) (t : Tb) (hst : ∀ l ∈ t.ls, l.2.1 = 1 ∨ l.2.1 = -1) (at' : Int) : sumR (recAll z t) at' = sumT t.ls (fl (fun c : Rec => decide (c.1 > at')) (recG z 0 t.ls)) := by
  unfold sumR
  rw [(leapsR_all z t hst).1]
  have hle := fl_le (fun c : Rec => decide (c.1 > at')) (recG z 0 t.ls)
  rw [getLast_take _ _ hle]
  rw [recG_len] at hle
  generalize fl (fun c : Rec => decide (c.1 > at')) (recG z 0 t.ls) = n at *
  by_cases e : n = 0
  · rw [if_pos e, e]; rfl
  · have h' : n - 1 < (recG z 0 t.ls).length := by rw [recG_len]; omega
    rw [if_neg e, List.getElem?_eq_getElem h', recG_get z t.ls 0 (n - 1) (by omega) h', show n - 1 + 1 = n by omega]
    simp
end Go.Proofs.YtodmkipcgfodkaaGreatDoor.Pl
end
section
set_option linter.unusedVariables false
set_option linter.unusedSimpArgs false
namespace Go.Proofs.YtodmkipcgfodkaaGreatDoor.Pl
open Go Go.Proofs.YtodmkipcgfodkaaGreatDoor.Eng
set_option linter.unusedVariables false
set_option linter.unusedSimpArgs false
theorem right_steps {t : Tb} (h : rightT t = true) : ∀ l ∈ t.ls, l.2.1 = 1 ∨ l.2.1 = -1 := fun l hl => (checkG_all _ _ _ (right_0 h).1 l hl).2.2
structure CompOk (z : Zn) (t : Tb) (y : Zn) : Prop where
  lp : z.lp = []
  zr : zoneRight z = true
  tr : rightT t = true
  ro : recE (recAll z t) = 0
  al : z.tr.all (fun c => (shiftR z t.ls c.1).2) = true
  ri : rising (z.tr.map fun c => ((shiftR z t.ls c.1).1, c.2)) = true
  eq : y = ⟨z.ty, z.tr.map fun c => ((shiftR z t.ls c.1).1, c.2), recAll z t, z.ft, if t.has = true then 4 else z.v⟩
theorem recOk_len (l : List Rec) (h : recOk 0 (-2419199, 0) l = true) : l.length ≤ 201 := by
  by_cases e : l = []
  · rw [e]; simp
  · have hp : 0 < l.length := List.length_pos_iff.2 e
    have := (recOk_gaps l 0 _ h (l.length - 1) (by omega)).2.1
    omega
theorem stepsL_bd : ∀ (ls : List LR), (∀ l ∈ ls, l.2.1 = 1 ∨ l.2.1 = -1) → -(ls.length : Int) ≤ stepsL ls ∧ stepsL ls ≤ ls.length
  | [], _ => by simp [stepsL]
  | l :: r, h => by
    have := stepsL_bd r fun x hx => h x (.tail _ hx)
    have := h l (.head _)
    rw [stepsL_cons, List.length_cons]; omega
theorem right_len {t : Tb} (h : rightT t = true) : t.ls.length ≤ 200 := by
  have : ∀ (p : List LR) (k : Nat) (a : Int), (checkG k a p).2.1 = 0 → p = [] ∨ k + p.length ≤ 200 := by
    intro p
    induction p with
    | nil => intro k a _; exact .inl rfl
    | cons x p ih =>
      intro k a h
      rw [checkG] at h
      split at h
      · rename_i hw; exact absurd h hw
      · rename_i hw
        have hw : wrongL k x a = 0 := by omega
        obtain ⟨q0, _⟩ := wrongL_0 hw
        rcases ih _ _ h with rfl | h'
        · right; simp; omega
        · right; simp; omega
  rcases this _ _ _ (right_0 h).1 with e | e
  · rw [e]; simp
  · omega
theorem ends_apart {a b : Int} (ha : endD a = true) (hb : endD b = true) (h : a < b) : a + 28 ≤ b := by
  unfold endD at ha hb
  rw [Bool.and_eq_true, decide_eq_true_eq, beq_iff_eq] at ha hb
  obtain ⟨⟨v1, v2, v3, v4, v5, v6⟩, e⟩ := num_date hb.1.1 hb.1.2
  have hd := dim_bd (yearP b) (monP b)
  by_cases hlt : b - a < 28
  · have hv : Vld (yearP b) (monP b) (dim (yearP b) (monP b) - (b - a)) := ⟨v1, v2, v3, v4, by omega, by omega⟩
    have hn : num (yearP b) (monP b) (dim (yearP b) (monP b) - (b - a)) = a := by
      unfold num at e ⊢
      rw [hb.2] at e; omega
    obtain ⟨q1, q2, q3⟩ := date_num hv
    rw [hn] at q1 q2 q3
    have := ha.2
    rw [q1, q2, q3] at this
    omega
  · omega
theorem checkG_days : ∀ (p : List LR) (k : Nat) (a : Int), (checkG k a p).2.1 = 0 → (∀ i (h : i < p.length), endD (p[i]).1 = true ∧ a < (p[i]).1) ∧ ∀ i j (hi : i < p.length) (hj : j < p.length), i < j → (p[i]).1 + 28 ≤ (p[j]).1
  | [], k, a, h => ⟨fun i hi => by simp at hi, fun i j hi => by simp at hi⟩
  | x :: p, k, a, h => by
    rw [checkG] at h
    split at h
    · rename_i hw; exact absurd h hw
    · rename_i hw
      have hw : wrongL k x a = 0 := by omega
      obtain ⟨_, q1, q2, q3, q4, q5⟩ := wrongL_0 hw
      obtain ⟨r1, r2⟩ := checkG_days p _ _ h
      refine ⟨fun i hi => ?_, fun i j hi hj hij => ?_⟩
      · cases i with
        | zero => exact ⟨q3, q5⟩
        | succ i =>
          have := r1 i (by simpa using hi)
          simp only [List.getElem_cons_succ]
          exact ⟨this.1, by omega⟩
      · cases j with
        | zero => omega
        | succ j =>
          have hj' : j < p.length := by simpa using hj
          simp only [List.getElem_cons_succ]
          cases i with
          | zero => exact ends_apart q3 (r1 j hj').1 (r1 j hj').2
          | succ i =>
            simp only [List.getElem_cons_succ]
            exact r2 i j (by simpa using hi) hj' (by omega)
theorem right_days {t : Tb} (h : rightT t = true) : ∀ i j (hi : i < t.ls.length) (hj : j < t.ls.length), i < j → (t.ls[i]).1 + 28 ≤ (t.ls[j]).1 := (checkG_days _ _ _ (right_0 h).1).2
theorem right_rng {t : Tb} (h : rightT t = true) : ∀ l ∈ t.ls, 730 ≤ l.1 ∧ l.1 < 2932896 := fun l hl => ⟨(checkG_all _ _ _ (right_0 h).1 l hl).1, (checkG_all _ _ _ (right_0 h).1 l hl).2.1⟩
/-- Every kind of local time of a right zone is within bounds. -/
def offOk (z : Zn) : Prop := ∀ a, -89999 ≤ (lookZ z a).1 ∧ (lookZ z a).1 ≤ 93599
end Go.Proofs.YtodmkipcgfodkaaGreatDoor.Pl
end
section
set_option linter.unusedVariables false
set_option linter.unusedSimpArgs false
namespace Go.Proofs.YtodmkipcgfodkaaGreatDoor.Pl
open Go Go.Proofs.YtodmkipcgfodkaaGreatDoor.Eng
set_option linter.unusedVariables false
set_option linter.unusedSimpArgs false
theorem stepT_of {t : Tb} (hst : ∀ l ∈ t.ls, l.2.1 = 1 ∨ l.2.1 = -1) : ∀ i, i < t.ls.length → stepT t.ls i = 1 ∨ stepT t.ls i = -1 := fun i h => by
  have := hst _ (List.getElem_mem h)
  unfold stepT
  rw [List.getD, List.getElem?_eq_getElem h]; exact this
theorem sumT_bd {t : Tb} (hst : ∀ l ∈ t.ls, l.2.1 = 1 ∨ l.2.1 = -1) (i : Nat) : -(t.ls.length : Int) ≤ sumT t.ls i ∧ sumT t.ls i ≤ t.ls.length := by
  have := stepsL_bd (t.ls.take i) fun l hl => hst l (List.mem_of_mem_take hl)
  have h2 : (t.ls.take i).length ≤ t.ls.length := by simp; omega
  unfold sumT; omega
theorem inst_utc {z : Zn} {l : LR} (h : l.2.2 = false) : instR z l = midL l := by unfold instR; rw [if_neg (by simp [h])]
theorem look_off {z : Zn} (h : zoneRight z = true) (hf : ∀ p, z.ft ≠ [] → -89999 ≤ ((Ft.parse z.ft).1.look p).1 ∧ ((Ft.parse z.ft).1.look p).1 ≤ 89999) : offOk z := by
  intro a
  unfold zoneRight at h
  simp only [Bool.and_eq_true] at h
  obtain ⟨⟨⟨⟨⟨c, r⟩, e⟩, ty⟩, tr⟩, en⟩ := h
  have hty : ∀ t ∈ z.ty, -89999 ≤ t.1 ∧ t.1 ≤ 93599 := fun t ht => by simpa using List.all_eq_true.1 ty t ht
  unfold lookZ
  split
  · rename_i h1; have := hf (posixR z a) h1.1; omega
  · split
    · cases hz : z.ty with
      | nil => simp
      | cons x y => exact hty x (by rw [hz]; exact .head _)
    · rename_i c hc
      by_cases hlt : c.2.toNat < z.ty.length
      · rw [List.getD, List.getElem?_eq_getElem hlt]; exact hty _ (List.getElem_mem hlt)
      · rw [List.getD, List.getElem?_eq_none (by omega)]; simp
end Go.Proofs.YtodmkipcgfodkaaGreatDoor.Pl
namespace Go.Proofs.YtodmkipcgfodkaaGreatDoor.Pl
open Go Go.Proofs.YtodmkipcgfodkaaGreatDoor.Eng
theorem foot_off {l : List UInt8} (h : (Ft.parse l).2 = true) (p : Int) : -89999 ≤ ((Ft.parse l).1.look p).1 ∧ ((Ft.parse l).1.look p).1 ≤ 89999 := by
  have hok := parse_ok l h
  have hok' := hok
  unfold Ft.ok at hok'
  rw [Bool.and_eq_true] at hok'
  unfold Ft.look
  split
  · rename_i hs
    have hh : (Ft.parse l).1.has = true := hs.2.1.1
    have := hok'.2
    rw [if_pos hh, Bool.and_eq_true, Bool.and_eq_true] at this
    exact (kind_all.1 this.1.1).2.2
  · exact (kind_all.1 hok'.1).2.2
theorem right_off {z : Zn} (h : zoneRight z = true) : offOk z := look_off h fun p hne => by
  unfold zoneRight at h
  simp only [Bool.and_eq_true] at h
  have en := h.2
  unfold endsOk at en
  rw [Bool.or_eq_true, List.isEmpty_iff, Bool.and_eq_true] at en
  exact foot_off (en.resolve_left hne).1 p
end Go.Proofs.YtodmkipcgfodkaaGreatDoor.Pl
end
section
set_option linter.unusedVariables false
set_option linter.unusedSimpArgs false
namespace Go.Proofs.YtodmkipcgfodkaaGreatDoor.Pl
open Go Go.Proofs.YtodmkipcgfodkaaGreatDoor.Eng
set_option linter.unusedVariables false
set_option linter.unusedSimpArgs false
theorem w64_over {n : Int} (h0 : 9223372036854775807 < n) (h1 : n ≤ 18446744073709551615) : w64 n = n - 18446744073709551616 := by
  simp only [w64, IntKind.wrap, IntKind.bits, IntKind.signed]
  simp
  split <;> omega
theorem w64_bd (n : Int) : -9223372036854775808 ≤ w64 n ∧ w64 n ≤ 9223372036854775807 := by
  simp only [w64, IntKind.wrap, IntKind.bits, IntKind.signed]
  simp
  split <;> omega
/-- Leaps of records; a table of them. -/
def tabX (s : Int) (c : Rec) : Int := w64 (w64 (c.1 - s) - min (c.2 - s) 0)
def tabG : Int → List Rec → Option (List LR)
  | _, [] => some []
  | s, c :: r => if tabX s c % 86400 = 0 then (tabG c.2 r).map (((tabX s c / 86400 - 1, c.2 - s, false) : LR) :: ·) else none
def tabE (l : List Rec) (ls : List LR) : Tb := ⟨ls, lastExp l, if lastExp l = true then w64 ((l.getD (l.length - 1) (0, 0)).1 - stepsL ls) else 0⟩
def tabT (l : List Rec) : Tb × Bool := match tabG 0 (leapsR l) with
  | none => (tb0, false)
  | some ls => if rightT (tabE l ls) = true then (tabE l ls, true) else (tb0, false)
def knownR (l : List Rec) : Bool := recRight l && (tabT l).2
/-- A table of UTC. -/
structure TU (t : Tb) : Prop where
  r : rightT t = true
  u : ∀ l ∈ t.ls, l.2.2 = false
theorem recOk_bd : ∀ (l : List Rec) (k : Nat) (b : Rec), recOk k b l = true → ∀ (i : Nat) (h : i < l.length), 0 ≤ (l[i]).1 ∧ b.2 - (i + 1) ≤ (l[i]).2 ∧ (l[i]).2 ≤ b.2 + (i + 1)
  | [], k, b, h, i, hi => by simp at hi
  | c :: r, k, b, h, i, hi => by
    rw [recOk] at h
    simp only [Bool.and_eq_true, Bool.or_eq_true, decide_eq_true_eq] at h
    cases i with
    | zero =>
      simp only [List.getElem_cons_zero]
      omega
    | succ i =>
      have ih := recOk_bd r (k + 1) c h.2 i (by simpa using hi)
      simp only [List.getElem_cons_succ]
      omega
def recB (l : List Rec) : Prop := ∀ c ∈ l, 0 ≤ c.1 ∧ c.1 ≤ 9223372036854775807 ∧ -300 ≤ c.2 ∧ c.2 ≤ 300
theorem recB_of {l : List Rec} (h : recRight l = true) (hi : ∀ c ∈ l, c.1 ≤ 9223372036854775807) : recB l := fun c hc => by
  have hl := recOk_len l h
  obtain ⟨i, hi', rfl⟩ := List.getElem_of_mem hc
  have := recOk_bd l 0 _ h i hi'
  have := hi _ (List.getElem_mem hi')
  simp only at *
  omega
theorem tabX_val {s : Int} {c : Rec} (hs : -300 ≤ s ∧ s ≤ 300) (hc : 0 ≤ c.1 ∧ c.1 ≤ 9223372036854775807 ∧ -300 ≤ c.2 ∧ c.2 ≤ 300) (h : 0 ≤ tabX s c) : tabX s c = c.1 - s - min (c.2 - s) 0 := by
  unfold tabX at h ⊢
  by_cases h1 : c.1 - s ≤ 9223372036854775807
  · rw [w64_in (n := c.1 - s) (by omega) h1] at h ⊢
    by_cases h2 : c.1 - s - min (c.2 - s) 0 ≤ 9223372036854775807
    · exact w64_in (by omega) h2
    · rw [w64_over (by omega) (by omega)] at h; omega
  · rw [w64_over (n := c.1 - s) (by omega) (by omega)] at h ⊢
    rw [w64_in (by omega) (by omega)] at h
    omega
theorem tabG_rec : ∀ (l : List Rec) (s : Int) (ls : List LR), (-300 ≤ s ∧ s ≤ 300) → recB l → tabG s l = some ls → (∀ x ∈ ls, 0 ≤ x.1) → l = recG zn0 s ls ∧ (∀ x ∈ ls, x.2.2 = false) ∧ s + stepsL ls = (l.getLast?.map (·.2)).getD s
  | [], s, ls, hs, hl, h, hd => by cases h; exact ⟨rfl, by simp, by simp [stepsL]⟩
  | c :: r, s, ls, hs, hl, h, hd => by
    rw [tabG] at h
    split at h
    case isFalse => cases h
    rename_i hm
    cases hr : tabG c.2 r with
    | none => rw [hr] at h; cases h
    | some ls' =>
      rw [hr] at h; cases h
      have hc := hl c (.head _)
      obtain ⟨h1, h2, h3⟩ := tabG_rec r c.2 ls' ⟨hc.2.2.1, hc.2.2.2⟩ (fun x hx => hl x (.tail _ hx)) hr (fun x hx => hd x (.tail _ hx))
      have hd0 := hd _ (.head _)
      simp only at hd0
      have hv := tabX_val hs hc (by omega)
      refine ⟨?_, fun x hx => ?_, ?_⟩
      · rw [recG, inst_utc rfl, show s + (c.2 - s) = c.2 by omega, ← h1]
        congr 1
        unfold midL
        ext
        · show c.1 = _
          simp only
          omega
        · rfl
      · rcases List.mem_cons.1 hx with rfl | hx
        · rfl
        · exact h2 x hx
      · rw [stepsL_cons, show s + (c.2 - s + stepsL ls') = c.2 + stepsL ls' by omega, h3]
        cases r with
        | nil => rfl
        | cons d r =>
          cases hy : (d :: r).getLast? with
          | none => simp at hy
          | some y => rw [List.getLast?_cons_cons, hy]; rfl
theorem leapsR_sub {l : List Rec} {c : Rec} (h : c ∈ leapsR l) : c ∈ l := by
  unfold leapsR at h
  split at h
  · exact List.mem_of_mem_take h
  · exact h
theorem tab_rec {l : List Rec} (hb : recB l) (h : (tabT l).2 = true) : TU (tabT l).1 ∧ l = recAll zn0 (tabT l).1 := by
  unfold tabT at h ⊢
  cases hg : tabG 0 (leapsR l) with
  | none => rw [hg] at h; cases h
  | some ls =>
    rw [hg] at h
    simp only at h ⊢
    split at h
    case isFalse => cases h
    rename_i hr
    rw [if_pos hr]
    obtain ⟨h1, h2, h3⟩ := tabG_rec _ _ _ (by omega) (fun c hc => hb c (leapsR_sub hc)) hg (fun x hx => by have := (right_rng hr x hx).1; omega)
    refine ⟨⟨hr, h2⟩, ?_⟩
    have hex := (right_ex hr).2
    unfold recAll
    show l = recG zn0 0 ls ++ if lastExp l = true then [((if lastExp l = true then w64 ((l.getD (l.length - 1) (0, 0)).1 - stepsL ls) else 0) + stepsL ls, stepsL ls)] else []
    have hex' : lastExp l = true → 63072000 ≤ (if lastExp l = true then w64 ((l.getD (l.length - 1) (0, 0)).1 - stepsL ls) else 0) := fun e => (hex e).1
    rw [← h1]
    unfold leapsR at h3 ⊢
    by_cases e : lastExp l = true
    · have hex' := hex' e
      rw [if_pos e] at h3 hex' ⊢
      rw [if_pos e, if_pos e]
      have hp : 1 ≤ l.length := by
        unfold lastExp at e
        simp only [Bool.or_eq_true, Bool.and_eq_true, decide_eq_true_eq] at e
        omega
      have hl : l = l.take (l.length - 1) ++ [l.getD (l.length - 1) (0, 0)] := by
        rw [List.getD, List.getElem?_eq_getElem (by omega), Option.getD_some]
        have := List.take_succ_eq_append_getElem (show l.length - 1 < l.length by omega)
        rw [← this, show l.length - 1 + 1 = l.length by omega, List.take_length]
      have hs : stepsL ls = (l.getD (l.length - 1) (0, 0)).2 := by
        rw [Int.zero_add] at h3
        rw [h3]
        unfold lastExp at e
        simp only [Bool.or_eq_true, Bool.and_eq_true, decide_eq_true_eq, beq_iff_eq] at e
        rw [getLast_take _ _ (by omega)]
        rcases e with ⟨e1, e2⟩ | ⟨e1, e2⟩
        · rw [if_pos (by omega), e1]
          exact e2.symm
        · rw [if_neg (by omega), List.getElem?_eq_getElem (by omega), e2]
          simp only [Option.map_some, Option.getD_some]
          rw [List.getD, List.getElem?_eq_getElem (by omega), Option.getD_some]
          simp only [show l.length - 1 - 1 = l.length - 2 by omega]
      have hc := hb (l.getD (l.length - 1) (0, 0)) (by rw [List.getD, List.getElem?_eq_getElem (by omega), Option.getD_some]; exact List.getElem_mem _)
      have hw : w64 ((l.getD (l.length - 1) (0, 0)).1 - stepsL ls) = (l.getD (l.length - 1) (0, 0)).1 - stepsL ls := by
        rw [hs] at hex' ⊢
        by_cases q : (l.getD (l.length - 1) (0, 0)).1 - (l.getD (l.length - 1) (0, 0)).2 ≤ 9223372036854775807
        · exact w64_in (by omega) q
        · rw [w64_over (by omega) (by omega)] at hex'; omega
      rw [hw, show (l.getD (l.length - 1) (0, 0)).1 - stepsL ls + stepsL ls = (l.getD (l.length - 1) (0, 0)).1 by omega, hs]
      exact hl
    · rw [if_neg e, if_neg e, List.append_nil]
/-- How many leaps are ahead of a day; a day's step; its first second. -/
def cntD (ls : List LR) (d : Int) : Nat := fl (fun l : LR => decide (l.1 ≥ d)) ls
def stepD (ls : List LR) (d : Int) : Int := if (ls.getD (cntD ls d) (-1, 0, false)).1 = d then (ls.getD (cntD ls d) (-1, 0, false)).2.1 else 0
def strt (ls : List LR) (d : Int) : Int := d * 86400 + sumT ls (cntD ls d)
variable {t : Tb}
theorem TU.len (h : TU t) : t.ls.length ≤ 200 := right_len h.r
theorem TU.sum (h : TU t) (i : Nat) : -200 ≤ sumT t.ls i ∧ sumT t.ls i ≤ 200 := by
  have := sumT_bd (right_steps h.r) i
  have := h.len
  omega
theorem TU.stp (h : TU t) {i : Nat} (hi : i < t.ls.length) : stepT t.ls i = 1 ∨ stepT t.ls i = -1 := stepT_of (right_steps h.r) i hi
theorem TU.day (h : TU t) {i : Nat} (hi : i < t.ls.length) : 730 ≤ (t.ls[i]).1 ∧ (t.ls[i]).1 < 2932896 := right_rng h.r _ (List.getElem_mem hi)
theorem cnt_spec (h : TU t) (d : Int) : cntD t.ls d ≤ t.ls.length ∧ (∀ i (hi : i < t.ls.length), i < cntD t.ls d ↔ (t.ls[i]).1 < d) := by
  refine ⟨fl_le _ _, fun i hi => ?_⟩
  have sp := fl_spec (fun l : LR => decide (l.1 ≥ d)) t.ls
  constructor
  · intro hc
    have := (sp i hi).1 hc
    simpa using this
  · intro hd
    rcases Nat.lt_or_ge i (cntD t.ls d) with q | q
    · exact q
    · exfalso
      have hl : cntD t.ls d < t.ls.length := by omega
      have h0 := (sp _ hl).2 rfl
      simp only [decide_eq_true_eq] at h0
      have h0' : (t.ls[cntD t.ls d]).1 ≥ d := h0
      rcases Nat.eq_or_lt_of_le q with e | e
      · simp only [e] at h0'; omega
      · have := right_days h.r _ _ hl hi e
        omega
theorem cnt_of (h : TU t) {d : Int} {n : Nat} (hn : n ≤ t.ls.length) (h1 : ∀ i (hi : i < t.ls.length), i < n ↔ (t.ls[i]).1 < d) : cntD t.ls d = n := by
  obtain ⟨c1, c2⟩ := cnt_spec h d
  rcases Nat.lt_trichotomy (cntD t.ls d) n with q | q | q
  · have hi : cntD t.ls d < t.ls.length := by omega
    have := (c2 _ hi).2 ((h1 _ hi).1 q)
    omega
  · exact q
  · have hi : n < t.ls.length := by omega
    have := (h1 _ hi).2 ((c2 _ hi).1 q)
    omega
theorem stepD_val (h : TU t) (d : Int) : (∃ i, ∃ hi : i < t.ls.length, cntD t.ls d = i ∧ (t.ls[i]).1 = d ∧ stepD t.ls d = stepT t.ls i) ∨
    ((∀ i (hi : i < t.ls.length), (t.ls[i]).1 ≠ d) ∧ stepD t.ls d = 0) := by
  obtain ⟨c1, c2⟩ := cnt_spec h d
  unfold stepD
  by_cases hl : cntD t.ls d < t.ls.length
  · rw [List.getD, List.getElem?_eq_getElem hl, Option.getD_some]
    by_cases e : (t.ls[cntD t.ls d]).1 = d
    · rw [if_pos e]
      refine .inl ⟨_, hl, rfl, e, ?_⟩
      unfold stepT
      rw [List.getD, List.getElem?_eq_getElem hl, Option.getD_some]
    · rw [if_neg e]
      refine .inr ⟨fun i hi e' => ?_, rfl⟩
      have := c2 i hi
      rcases Nat.lt_trichotomy i (cntD t.ls d) with q | q | q
      · omega
      · subst q; exact e e'
      · have := right_days h.r _ _ hl hi q
        have := c2 _ hl
        omega
  · rw [List.getD, List.getElem?_eq_none (by omega), Option.getD_none]
    have hno : ∀ i (hi : i < t.ls.length), (t.ls[i]).1 ≠ d := fun i hi => by have := c2 i hi; omega
    split
    · exact .inr ⟨hno, rfl⟩
    · exact .inr ⟨hno, rfl⟩
theorem stepD_bd (h : TU t) (d : Int) : -1 ≤ stepD t.ls d ∧ stepD t.ls d ≤ 1 := by
  rcases stepD_val h d with ⟨i, hi, _, _, e⟩ | ⟨_, e⟩
  · have := h.stp hi; omega
  · omega
theorem strt_succ (h : TU t) (d : Int) : strt t.ls (d + 1) = strt t.ls d + 86400 + stepD t.ls d := by
  obtain ⟨c1, c2⟩ := cnt_spec h d
  unfold strt
  rcases stepD_val h d with ⟨i, hi, e1, e2, e3⟩ | ⟨e1, e2⟩
  · have : cntD t.ls (d + 1) = i + 1 := cnt_of h (by omega) fun j hj => by
      have := c2 j hj
      rcases Nat.lt_trichotomy j i with q | q | q
      · omega
      · subst q; omega
      · have := right_days h.r _ _ hi hj q
        omega
    rw [this, sumT_succ hi, e1, e3]; omega
  · have : cntD t.ls (d + 1) = cntD t.ls d := cnt_of h c1 fun j hj => by
      have := c2 j hj
      have := e1 j hj
      omega
    rw [this, e2]; omega
theorem strt_mono (h : TU t) (d : Int) : ∀ (n : Nat), strt t.ls d + 86399 * (n : Int) ≤ strt t.ls (d + n)
  | 0 => by simp
  | n + 1 => by
    have := strt_mono h d n
    have e := strt_succ h (d + n)
    have := stepD_bd h (d + n)
    rw [show d + ((n + 1 : Nat) : Int) = d + n + 1 by omega, e]
    omega
theorem strt_lt (h : TU t) {d e : Int} (hd : d ≤ e) : strt t.ls d + 86399 * (e - d) ≤ strt t.ls e := by
  have := strt_mono h d (e - d).toNat
  rw [show (((e - d).toNat : Nat) : Int) = e - d by omega, show d + (e - d) = e by omega] at this
  exact this
theorem strt_730 (h : TU t) {d : Int} (hd : d ≤ 730) : strt t.ls d = d * 86400 := by
  unfold strt
  have : cntD t.ls d = 0 := cnt_of h (by omega) fun i hi => by have := h.day hi; omega
  rw [this]; simp [sumT, stepsL]
/-- Records of leaps: when they are. -/
def ri (ls : List LR) (i : Nat) : Int := midL (ls.getD i (0, 0, false)) + sumT ls i + min (stepT ls i) 0
theorem ri_get (h : TU t) {i : Nat} (hi : i < t.ls.length) : ∃ h', (recG zn0 0 t.ls)[i]'h' = (ri t.ls i, sumT t.ls (i + 1)) := by
  have hl : i < (recG zn0 0 t.ls).length := by rw [recG_len]; exact hi
  refine ⟨hl, ?_⟩
  rw [recG_get zn0 t.ls 0 i hi hl, inst_utc (h.u _ (List.getElem_mem hi))]
  unfold ri
  rw [List.getD, List.getElem?_eq_getElem hi, Option.getD_some]
  simp
theorem ri_val {i : Nat} (hi : i < t.ls.length) : ri t.ls i = ((t.ls[i]).1 + 1) * 86400 + sumT t.ls i + min (stepT t.ls i) 0 := by
  unfold ri midL
  rw [List.getD, List.getElem?_eq_getElem hi, Option.getD_some]
theorem ri_lt (h : TU t) {i j : Nat} (hi : i < t.ls.length) (hj : j < t.ls.length) (hij : i < j) : ri t.ls i + 86400 < ri t.ls j := by
  rw [ri_val hi, ri_val hj]
  have := right_days h.r _ _ hi hj hij
  have := h.sum i
  have := h.sum j
  have := h.stp hi
  have := h.stp hj
  omega
/-- How many records there are up to a second. -/
def cntR (ls : List LR) (a : Int) : Nat := fl (fun c : Rec => decide (c.1 > a)) (recG zn0 0 ls)
theorem cntR_spec (h : TU t) (a : Int) : cntR t.ls a ≤ t.ls.length ∧ ∀ i (hi : i < t.ls.length), i < cntR t.ls a ↔ ri t.ls i ≤ a := by
  have hle := fl_le (fun c : Rec => decide (c.1 > a)) (recG zn0 0 t.ls)
  rw [recG_len] at hle
  refine ⟨hle, fun i hi => ?_⟩
  have sp := fl_spec (fun c : Rec => decide (c.1 > a)) (recG zn0 0 t.ls)
  have get : ∀ j (hj : j < t.ls.length), (j < cntR t.ls a → ¬ ri t.ls j > a) ∧ (j = cntR t.ls a → ri t.ls j > a) := fun j hj => by
    obtain ⟨h', e⟩ := ri_get h hj
    have := sp j h'
    rw [e] at this
    simp only [decide_eq_false_iff_not, decide_eq_true_eq] at this
    exact this
  constructor
  · intro hc
    have := (get i hi).1 hc
    omega
  · intro hc
    rcases Nat.lt_or_ge i (cntR t.ls a) with q | q
    · exact q
    · exfalso
      have hl : cntR t.ls a < t.ls.length := by omega
      have := (get _ hl).2 rfl
      rcases Nat.eq_or_lt_of_le q with e | e
      · simp only [e] at this; omega
      · have := ri_lt h hl hi e
        omega
theorem sum_cnt (h : TU t) (a : Int) : sumR (recAll zn0 t) a = sumT t.ls (cntR t.ls a) := sumR_all zn0 t (right_steps h.r) a
theorem step_cnt (h : TU t) (a : Int) : (∃ i, ∃ hi : i < t.ls.length, ri t.ls i = a ∧ cntR t.ls a = i + 1 ∧ stepR (recAll zn0 t) a = stepT t.ls i) ∨ ((∀ i (hi : i < t.ls.length), ri t.ls i ≠ a) ∧ stepR (recAll zn0 t) a = 0) := by
  obtain ⟨c1, c2⟩ := cntR_spec h a
  obtain ⟨b1, b2⟩ := cntR_spec h (a - 1)
  unfold stepR
  rw [sum_cnt h, sum_cnt h]
  have hle : cntR t.ls (a - 1) ≤ cntR t.ls a := by
    rcases Nat.lt_or_ge (cntR t.ls a) (cntR t.ls (a - 1)) with q | q
    · have hi : cntR t.ls a < t.ls.length := by omega
      have := (b2 _ hi).1 q
      have := c2 _ hi
      omega
    · exact q
  by_cases e : cntR t.ls (a - 1) = cntR t.ls a
  · refine .inr ⟨fun i hi e' => ?_, by rw [e]; omega⟩
    have := b2 i hi
    have := c2 i hi
    omega
  · have hi : cntR t.ls (a - 1) < t.ls.length := by omega
    have k1 := b2 _ hi
    have k2 := c2 _ hi
    refine .inl ⟨_, hi, by omega, ?_, ?_⟩
    · rcases Nat.lt_or_ge (cntR t.ls (a - 1) + 1) (cntR t.ls a) with q | q
      · have hj : cntR t.ls (a - 1) + 1 < t.ls.length := by omega
        have := (c2 _ hj).1 q
        have := ri_lt h hi hj (by omega)
        omega
      · omega
    · have : cntR t.ls a = cntR t.ls (a - 1) + 1 := by
        rcases Nat.lt_or_ge (cntR t.ls (a - 1) + 1) (cntR t.ls a) with q | q
        · have hj : cntR t.ls (a - 1) + 1 < t.ls.length := by omega
          have := (c2 _ hj).1 q
          have := ri_lt h hi hj (by omega)
          omega
        · omega
      rw [this, sumT_succ hi]; omega
/-- The day and the second of a second, counted as records are. -/
def utcD (l : List Rec) (a : Int) : Int := (a - sumR l a) / 86400
def utcS (l : List Rec) (a : Int) : Int := (a - sumR l a) % 86400 + if stepR l a > 0 then 1 else 0
theorem utc_strt (h : TU t) (a : Int) : strt t.ls (utcD (recAll zn0 t) a) + utcS (recAll zn0 t) a = a ∧ 0 ≤ utcS (recAll zn0 t) a ∧ utcS (recAll zn0 t) a < 86400 + stepD t.ls (utcD (recAll zn0 t) a) ∧
    (utcS (recAll zn0 t) a = 86400 → stepR (recAll zn0 t) a = 1) := by
  obtain ⟨c1, c2⟩ := cntR_spec h a
  have hsum := sum_cnt h a
  have hbd := h.sum (cntR t.ls a)
  unfold utcD utcS
  rw [hsum]
  generalize hn : cntR t.ls a = n at *
  generalize hp : a - sumT t.ls n = p at *
  have hpd : p = 86400 * (p / 86400) + p % 86400 := by omega
  -- the inserted second
  by_cases hins : ∃ i, ∃ hi : i < t.ls.length, ri t.ls i = a ∧ stepT t.ls i = 1
  · obtain ⟨i, hi, e1, e2⟩ := hins
    have hin : n = i + 1 := by
      rcases step_cnt h a with ⟨j, hj, f1, f2, f3⟩ | ⟨f1, _⟩
      · have : j = i := by
          rcases Nat.lt_trichotomy i j with q | q | q
          · have := ri_lt h hi hj q; omega
          · exact q.symm
          · have := ri_lt h hj hi q; omega
        omega
      · exact absurd e1 (f1 i hi)
    have hst : stepR (recAll zn0 t) a = 1 := by
      rcases step_cnt h a with ⟨j, hj, f1, f2, f3⟩ | ⟨f1, _⟩
      · rw [hn] at f2
        have : j = i := by omega
        subst this; rw [f3, e2]
      · exact absurd e1 (f1 i hi)
    have hs := sumT_succ hi
    have hv := ri_val hi
    have hq : p = (t.ls[i]).1 * 86400 + 86399 := by
      rw [hin, hs] at hp; omega
    have hd : p / 86400 = (t.ls[i]).1 := by omega
    have hc : cntD t.ls (t.ls[i]).1 = i := cnt_of h (by omega) fun j hj => by
      rcases Nat.lt_trichotomy j i with q | q | q
      · have := right_days h.r _ _ hj hi q; omega
      · subst q; omega
      · have := right_days h.r _ _ hi hj q; omega
    have hsd : stepD t.ls (t.ls[i]).1 = 1 := by
      rcases stepD_val h (t.ls[i]).1 with ⟨j, hj, f1, f2, f3⟩ | ⟨f1, _⟩
      · have : j = i := by omega
        subst this; omega
      · exact absurd rfl (f1 i hi)
    rw [hd, hst, hsd, if_pos (by omega)]
    unfold strt
    rw [hc]
    omega
  · have hst : ¬ stepR (recAll zn0 t) a > 0 := by
      rcases step_cnt h a with ⟨j, hj, f1, f2, f3⟩ | ⟨f1, f2⟩
      · rw [f3]
        intro q
        have := h.stp hj
        exact hins ⟨j, hj, f1, by omega⟩
      · omega
    rw [if_neg hst]
    have hc : cntD t.ls (p / 86400) = n := cnt_of h c1 fun j hj => by
      have k := c2 j hj
      have v := ri_val hj
      have sj := h.stp hj
      constructor
      · intro q
        have k := k.1 q
        rcases Nat.lt_or_ge (j + 1) n with q2 | q2
        · have hj2 : n - 1 < t.ls.length := by omega
          have k2 := (c2 _ hj2).1 (by omega)
          have v2 := ri_val hj2
          have s2 := h.stp hj2
          have ss := sumT_succ hj2
          rw [show n - 1 + 1 = n by omega] at ss
          have := right_days h.r _ _ hj hj2 (by omega)
          omega
        · have e : n = j + 1 := by omega
          have ss := sumT_succ hj
          rw [← e] at ss
          by_cases e1 : stepT t.ls j = 1
          · have : ri t.ls j ≠ a := fun e2 => hins ⟨j, hj, e2, e1⟩
            omega
          · omega
      · intro q
        rcases Nat.lt_or_ge j n with q2 | q2
        · exact q2
        · exfalso
          have hn2 : n < t.ls.length := by omega
          have k2 := c2 _ hn2
          have v2 := ri_val hn2
          have s2 := h.stp hn2
          rcases Nat.eq_or_lt_of_le q2 with e | e
          · subst e; omega
          · have := right_days h.r _ _ hn2 hj e
            omega
    unfold strt
    rw [hc]
    refine ⟨by omega, by omega, ?_, by omega⟩
    rcases stepD_val h (p / 86400) with ⟨j, hj, f1, f2, f3⟩ | ⟨f1, f2⟩
    · rw [f3]
      rw [hc] at f1
      subst f1
      have k := c2 _ hj
      have v := ri_val hj
      have := h.stp hj
      omega
    · omega
end Go.Proofs.YtodmkipcgfodkaaGreatDoor.Pl
end
section
set_option linter.unusedVariables false
set_option linter.unusedSimpArgs false
namespace Go.Proofs.YtodmkipcgfodkaaGreatDoor.Pl
open Go Go.Proofs.YtodmkipcgfodkaaGreatDoor.Eng
set_option linter.unusedVariables false
set_option linter.unusedSimpArgs false
/-- A local time. -/
structure Cv where
  d : Int
  h : Int
  m : Int
  s : Int
  off : Int
  dst : Bool
  ab : List UInt8
deriving DecidableEq
def cv0 : Cv := ⟨0, 0, 0, 0, 0, false, []⟩
def d4 (n : Int) : List UInt8 := [UInt8.ofNat (48 + (n / 10 / 10 / 10 % 10).toNat), UInt8.ofNat (48 + (n / 10 / 10 % 10).toNat), UInt8.ofNat (48 + (n / 10 % 10).toNat), UInt8.ofNat (48 + (n % 10).toNat)]
def dayL (n : Int) : List UInt8 := d4 (yearP n) ++ 45 :: (dd (monP n) ++ 45 :: dd (dayP n))
def pairP (n : Int) : List UInt8 := itoaK (n / 10) ++ itoaK (n % 10)
def distB (off : Int) : List UInt8 :=
  (if off < 0 then 45 else 43) :: (pairP ((if off < 0 then -off else off) / 3600) ++ 58 :: (pairP ((if off < 0 then -off else off) / 60 % 60) ++ (if (if off < 0 then -off else off) % 60 ≠ 0 then 58 :: pairP ((if off < 0 then -off else off) % 60) else [])))
def okC (c : Cv) : Bool := decide (-719162 ≤ c.d ∧ c.d ≤ 2932896) && decide (0 ≤ c.h ∧ c.h ≤ 23) && decide (0 ≤ c.m ∧ c.m ≤ 59) && decide (0 ≤ c.s ∧ c.s ≤ 60) && decide (-89999 ≤ c.off ∧ c.off ≤ 93599) && abbrL c.ab
def ctextB (c : Cv) : List UInt8 := dayL c.d ++ 84 :: (pairP c.h ++ 58 :: (pairP c.m ++ 58 :: (pairP c.s ++ (distB c.off ++ 32 :: c.ab))))
def ctextL (c : Cv) : List UInt8 × Bool := if okC c = true then (ctextB c, true) else ([], false)
/-- The numbers of a text of a form. -/
def readG : List UInt8 → List UInt8 → Int → Bool → List Int → Bool × List Int
  | [], sh, n, had, acc => (had && sh.isEmpty, acc ++ [n])
  | c :: r, [], n, had, acc => (false, [])
  | c :: r, q :: sh, n, had, acc =>
    if q ≠ 48 then (if c ≠ q then (false, []) else readG r sh 0 false (acc ++ [n]))
    else if isDig c = true then readG r sh (10 * n + ((c.toNat : Int) - 48)) true acc else (false, [])
def zs (k : Nat) : List UInt8 := List.replicate k 48
def shC : List UInt8 := [48, 48, 48, 48, 45, 48, 48, 45, 48, 48, 84, 48, 48, 58, 48, 48, 58, 48, 48]
def shD : List UInt8 := [48, 48, 58, 48, 48]
def shE : List UInt8 := [48, 48, 58, 48, 48, 58, 48, 48]
theorem readG_digs : ∀ (ds : List UInt8) (r sh : List UInt8) (n : Int) (had : Bool) (acc : List Int), (∀ c ∈ ds, isDig c = true) → ds ≠ [] →
    readG (ds ++ r) (zs ds.length ++ sh) n had acc = readG r sh (10 ^ ds.length * n + (valL ds : Int)) true acc
  | [], r, sh, n, had, acc, _, h => absurd rfl h
  | [c], r, sh, n, had, acc, hd, _ => by
    have hc := hd c (.head _)
    have := (isDig_iff c).1 hc
    show readG (c :: r) (48 :: sh) n had acc = _
    rw [readG, if_neg (by simp), if_pos hc]
    congr 1
    simp [valL_one]; omega
  | c :: e :: ds, r, sh, n, had, acc, hd, _ => by
    have hc := hd c (.head _)
    have hb := (isDig_iff c).1 hc
    have ih := readG_digs (e :: ds) r sh (10 * n + ((c.toNat : Int) - 48)) true acc (fun x hx => hd x (.tail _ hx)) (by simp)
    show readG (c :: ((e :: ds) ++ r)) (48 :: (zs (e :: ds).length ++ sh)) n had acc = _
    rw [readG, if_neg (by simp), if_pos hc, ih]
    congr 1
    have key : ∀ (l : List UInt8) (v : Nat), l.foldl (fun n c => 10 * n + (c.toNat - 48)) v = 10 ^ l.length * v + l.foldl (fun n c => 10 * n + (c.toNat - 48)) 0 := by
      intro l
      induction l with
      | nil => simp
      | cons x l ih =>
        intro v
        simp only [List.foldl_cons, List.length_cons]
        rw [ih, ih (10 * 0 + (x.toNat - 48)), Nat.pow_succ]
        simp only [Nat.mul_zero, Nat.zero_add, Nat.mul_add]
        rw [Nat.mul_assoc, Nat.add_assoc]
    have hv : valL (c :: e :: ds) = 10 ^ (e :: ds).length * (c.toNat - 48) + valL (e :: ds) := by
      unfold valL
      rw [List.foldl_cons, key (e :: ds)]
      simp
    rw [hv, List.length_cons (a := c), Int.pow_succ]
    push_cast
    rw [show ((c.toNat - 48 : Nat) : Int) = (c.toNat : Int) - 48 by omega]
    rw [Int.mul_add, ← Int.mul_assoc, Int.mul_comm (10 ^ (e :: ds).length) 10, Int.add_assoc]
theorem readG_sep {q : UInt8} (hq : q ≠ 48) (r sh : List UInt8) (n : Int) (had : Bool) (acc : List Int) : readG (q :: r) (q :: sh) n had acc = readG r sh 0 false (acc ++ [n]) := by
  rw [readG, if_pos hq, if_neg (by simp)]
theorem readG_inv : ∀ (k : Nat) (l sh : List UInt8) (n : Int) (had : Bool) (acc : List Int), (readG l (zs k ++ sh) n had acc).1 = true → (sh = [] ∨ ∃ q s, sh = q :: s ∧ q ≠ 48) →
    ∃ ds r, l = ds ++ r ∧ ds.length = k ∧ (∀ c ∈ ds, isDig c = true)
  | 0, l, sh, n, had, acc, h, _ => ⟨[], l, rfl, rfl, fun c hc => by cases hc⟩
  | k + 1, [], sh, n, had, acc, h, _ => by
    rw [readG] at h
    simp [zs] at h
  | k + 1, c :: l, sh, n, had, acc, h, hs => by
    have h : (readG (c :: l) (48 :: (zs k ++ sh)) n had acc).1 = true := h
    rw [readG, if_neg (by simp)] at h
    split at h
    case isFalse => cases h
    rename_i hc
    obtain ⟨ds, r, rfl, h2, h3⟩ := readG_inv k l sh _ _ _ h hs
    exact ⟨c :: ds, r, rfl, by simp [h2], fun x hx => by rcases List.mem_cons.1 hx with rfl | hx; exact hc; exact h3 x hx⟩
theorem readG_field (k : Nat) (q : UInt8) (hq : q ≠ 48) (l sh : List UInt8) (acc : List Int) (had : Bool) (hk : 0 < k) (h : (readG l (zs k ++ q :: sh) 0 had acc).1 = true) :
    ∃ ds r, l = ds ++ q :: r ∧ ds.length = k ∧ (∀ c ∈ ds, isDig c = true) ∧ readG l (zs k ++ q :: sh) 0 had acc = readG r sh 0 false (acc ++ [(valL ds : Int)]) := by
  obtain ⟨ds, r, rfl, h2, h3⟩ := readG_inv k l (q :: sh) 0 had acc h (.inr ⟨q, sh, rfl, hq⟩)
  have hne : ds ≠ [] := by intro e; subst e; simp at h2; omega
  have e1 := readG_digs ds r (q :: sh) 0 had acc h3 hne
  rw [h2] at e1
  rw [e1] at h ⊢
  cases r with
  | nil => rw [readG] at h; simp at h
  | cons c r =>
    rw [readG, if_pos hq] at h
    split at h
    · cases h
    · rename_i hc
      have hc : c = q := by simpa using hc
      subst hc
      refine ⟨ds, r, rfl, h2, h3, ?_⟩
      rw [readG_sep hq]
      simp
theorem readG_last (k : Nat) (l : List UInt8) (acc : List Int) (had : Bool) (hk : 0 < k) (h : (readG l (zs k) 0 had acc).1 = true) :
    l.length = k ∧ (∀ c ∈ l, isDig c = true) ∧ readG l (zs k) 0 had acc = (true, acc ++ [(valL l : Int)]) := by
  have h : (readG l (zs k ++ []) 0 had acc).1 = true := by rw [List.append_nil]; exact h
  obtain ⟨ds, r, rfl, h2, h3⟩ := readG_inv k l [] 0 had acc h (.inl rfl)
  have hne : ds ≠ [] := by intro e; subst e; simp at h2; omega
  have e1 := readG_digs ds r [] 0 had acc h3 hne
  rw [h2] at e1
  rw [e1] at h
  rw [List.append_nil] at e1
  cases r with
  | nil =>
    rw [List.append_nil] at e1 ⊢
    refine ⟨h2, h3, ?_⟩
    rw [e1, readG]
    simp
  | cons c r => rw [readG] at h; simp at h
theorem u8_48 {c : UInt8} {v : Nat} (h : v = c.toNat - 48) (hc : isDig c = true) : UInt8.ofNat (48 + v) = c := by
  have := (isDig_iff c).1 hc
  refine u8_eq ?_
  rw [UInt8.toNat_ofNat']
  omega
theorem dd_val {ds : List UInt8} (hl : ds.length = 2) (hd : ∀ c ∈ ds, isDig c = true) : dd (valL ds : Int) = ds ∧ valL ds ≤ 99 := by
  match ds, hl with
  | [a, b], _ =>
    have ha := hd a (.head _)
    have hb := hd b (.tail _ (.head _))
    have h1 := (isDig_iff a).1 ha
    have h2 := (isDig_iff b).1 hb
    rw [valL_two]
    refine ⟨?_, by omega⟩
    unfold dd
    rw [u8_48 (c := a) (by omega) ha, u8_48 (c := b) (by omega) hb]
theorem d4_val {ds : List UInt8} (hl : ds.length = 4) (hd : ∀ c ∈ ds, isDig c = true) : d4 (valL ds : Int) = ds ∧ valL ds ≤ 9999 := by
  match ds, hl with
  | [a, b, c, e], _ =>
    have ha := hd a (.head _)
    have hb := hd b (.tail _ (.head _))
    have hc := hd c (.tail _ (.tail _ (.head _)))
    have he := hd e (.tail _ (.tail _ (.tail _ (.head _))))
    have h1 := (isDig_iff a).1 ha
    have h2 := (isDig_iff b).1 hb
    have h3 := (isDig_iff c).1 hc
    have h4 := (isDig_iff e).1 he
    have hv : valL [a, b, c, e] = 10 * (10 * (10 * (a.toNat - 48) + (b.toNat - 48)) + (c.toNat - 48)) + (e.toNat - 48) := by simp [valL]
    rw [hv]
    refine ⟨?_, by omega⟩
    unfold d4
    rw [u8_48 (c := a) (by omega) ha, u8_48 (c := b) (by omega) hb, u8_48 (c := c) (by omega) hc, u8_48 (c := e) (by omega) he]
theorem dd_digs {n : Int} (h0 : 0 ≤ n) (h1 : n ≤ 99) : (dd n).length = 2 ∧ (∀ c ∈ dd n, isDig c = true) ∧ valL (dd n) = n.toNat ∧ pairP n = dd n := by
  have key : ∀ k : Nat, k < 100 → ((dd (k : Int)).length = 2 ∧ (dd (k : Int)).all isDig = true ∧ valL (dd (k : Int)) = k ∧ pairP (k : Int) = dd (k : Int)) := by decide +kernel
  have := key n.toNat (by omega)
  rw [show ((n.toNat : Nat) : Int) = n by omega] at this
  exact ⟨this.1, List.all_eq_true.1 this.2.1, this.2.2.1, this.2.2.2⟩
theorem d4_digs {n : Int} (h0 : 0 ≤ n) (h1 : n ≤ 9999) : (d4 n).length = 4 ∧ (∀ c ∈ d4 n, isDig c = true) ∧ valL (d4 n) = n.toNat := by
  have dig : ∀ v : Int, 0 ≤ v → isDig (UInt8.ofNat (48 + (v % 10).toNat)) = true ∧ (UInt8.ofNat (48 + (v % 10).toNat)).toNat = 48 + (v % 10).toNat := fun v hv => by
    have : (UInt8.ofNat (48 + (v % 10).toNat)).toNat = 48 + (v % 10).toNat := by rw [UInt8.toNat_ofNat']; omega
    exact ⟨(isDig_iff _).2 (by omega), this⟩
  refine ⟨rfl, fun c hc => ?_, ?_⟩
  · unfold d4 at hc
    simp only [List.mem_cons, List.not_mem_nil, or_false] at hc
    rcases hc with rfl | rfl | rfl | rfl
    · exact (dig _ (by omega)).1
    · exact (dig _ (by omega)).1
    · exact (dig _ (by omega)).1
    · exact (dig _ h0).1
  · unfold d4
    simp only [valL, List.foldl_cons, List.foldl_nil]
    rw [(dig (n / 10 / 10 / 10) (by omega)).2, (dig (n / 10 / 10) (by omega)).2, (dig (n / 10) (by omega)).2, (dig n h0).2]
    omega
/-- How far a clock is ahead, out of a text; a local time out of one. -/
def sumO (neg : Bool) : List Int → Int
  | [a, b] => if neg = true then -(3600 * a + 60 * b) else 3600 * a + 60 * b
  | [a, b, c] => if neg = true then -(3600 * a + 60 * b + c) else 3600 * a + 60 * b + c
  | _ => 0
def awayL (l : List UInt8) : Int × Bool := match l with
  | [] => (0, false)
  | g :: r => if g ≠ 43 ∧ g ≠ 45 then (0, false) else
    if (readG r (if 6 < l.length then shE else shD) 0 false []).1 = false then (0, false) else
    (sumO (g == 45) (readG r (if 6 < l.length then shE else shD) 0 false []).2, distB (sumO (g == 45) (readG r (if 6 < l.length then shE else shD) 0 false []).2) == l)
def cparseB (b nm : List UInt8) : Cv × Bool :=
  if b.length < 19 then (cv0, false) else
  if (readG (b.take 19) shC 0 false []).1 = false ∨ (awayL (b.drop 19)).2 = false then (cv0, false) else
  match (readG (b.take 19) shC 0 false []).2 with
  | [y, m, d, h, mi, s] => if (1 ≤ y ∧ y ≤ 9999 ∧ 1 ≤ m ∧ m ≤ 12 ∧ 1 ≤ d ∧ d ≤ dim y m) ∧ okC ⟨num y m d, h, mi, s, (awayL (b.drop 19)).1, false, nm⟩ = true then (⟨num y m d, h, mi, s, (awayL (b.drop 19)).1, false, nm⟩, true) else (cv0, false)
  | _ => (cv0, false)
def cparseL (s : List UInt8) : Cv × Bool := cparseB (splitL 32 s).1 (splitL 32 s).2.1
theorem read_clock {l : List UInt8} (h : (readG l shC 0 false []).1 = true) : ∃ d1 d2 d3 d4' d5 d6 : List UInt8, l = d1 ++ 45 :: (d2 ++ 45 :: (d3 ++ 84 :: (d4' ++ 58 :: (d5 ++ 58 :: d6)))) ∧
    (d1.length = 4 ∧ ∀ c ∈ d1, isDig c = true) ∧ (d2.length = 2 ∧ ∀ c ∈ d2, isDig c = true) ∧ (d3.length = 2 ∧ ∀ c ∈ d3, isDig c = true) ∧ (d4'.length = 2 ∧ ∀ c ∈ d4', isDig c = true) ∧ (d5.length = 2 ∧ ∀ c ∈ d5, isDig c = true) ∧ (d6.length = 2 ∧ ∀ c ∈ d6, isDig c = true) ∧
    (readG l shC 0 false []).2 = [(valL d1 : Int), (valL d2 : Int), (valL d3 : Int), (valL d4' : Int), (valL d5 : Int), (valL d6 : Int)] := by
  obtain ⟨d1, r1, e1, a1, b1, c1⟩ := readG_field 4 45 (by decide) l (zs 2 ++ 45 :: (zs 2 ++ 84 :: (zs 2 ++ 58 :: (zs 2 ++ 58 :: zs 2)))) [] false (by decide) h
  have c1 : readG l shC 0 false [] = _ := c1
  rw [c1] at h ⊢
  obtain ⟨d2, r2, e2, a2, b2, c2⟩ := readG_field 2 45 (by decide) r1 _ _ _ (by decide) h
  rw [c2] at h ⊢
  obtain ⟨d3, r3, e3, a3, b3, c3⟩ := readG_field 2 84 (by decide) r2 _ _ _ (by decide) h
  rw [c3] at h ⊢
  obtain ⟨d4', r4, e4, a4, b4, c4⟩ := readG_field 2 58 (by decide) r3 _ _ _ (by decide) h
  rw [c4] at h ⊢
  obtain ⟨d5, r5, e5, a5, b5, c5⟩ := readG_field 2 58 (by decide) r4 _ _ _ (by decide) h
  rw [c5] at h ⊢
  obtain ⟨a6, b6, c6⟩ := readG_last 2 r5 _ _ (by decide) h
  rw [c6]
  refine ⟨d1, d2, d3, d4', d5, r5, ?_, ⟨a1, b1⟩, ⟨a2, b2⟩, ⟨a3, b3⟩, ⟨a4, b4⟩, ⟨a5, b5⟩, ⟨a6, b6⟩, rfl⟩
  rw [e1, e2, e3, e4, e5]
theorem clock_read (d1 d2 d3 d4' d5 d6 : List UInt8) (h1 : d1.length = 4 ∧ ∀ c ∈ d1, isDig c = true) (h2 : d2.length = 2 ∧ ∀ c ∈ d2, isDig c = true) (h3 : d3.length = 2 ∧ ∀ c ∈ d3, isDig c = true) (h4 : d4'.length = 2 ∧ ∀ c ∈ d4', isDig c = true) (h5 : d5.length = 2 ∧ ∀ c ∈ d5, isDig c = true) (h6 : d6.length = 2 ∧ ∀ c ∈ d6, isDig c = true) :
    readG (d1 ++ 45 :: (d2 ++ 45 :: (d3 ++ 84 :: (d4' ++ 58 :: (d5 ++ 58 :: d6))))) shC 0 false [] = (true, [(valL d1 : Int), (valL d2 : Int), (valL d3 : Int), (valL d4' : Int), (valL d5 : Int), (valL d6 : Int)]) := by
  have ne : ∀ {l : List UInt8} {k : Nat}, l.length = k → 0 < k → l ≠ [] := fun hl hk e => by subst e; simp at hl; omega
  have f1 := readG_digs d1 (45 :: (d2 ++ 45 :: (d3 ++ 84 :: (d4' ++ 58 :: (d5 ++ 58 :: d6))))) (45 :: (zs 2 ++ 45 :: (zs 2 ++ 84 :: (zs 2 ++ 58 :: (zs 2 ++ 58 :: zs 2))))) 0 false [] h1.2 (ne h1.1 (by decide))
  rw [h1.1] at f1
  have f1 : readG _ shC 0 false [] = _ := f1
  rw [f1, readG_sep (by decide)]
  have f2 := readG_digs d2 (45 :: (d3 ++ 84 :: (d4' ++ 58 :: (d5 ++ 58 :: d6)))) (45 :: (zs 2 ++ 84 :: (zs 2 ++ 58 :: (zs 2 ++ 58 :: zs 2)))) 0 false ([] ++ [10 ^ 4 * 0 + (valL d1 : Int)]) h2.2 (ne h2.1 (by decide))
  rw [h2.1] at f2
  rw [f2, readG_sep (by decide)]
  have f3 := readG_digs d3 (84 :: (d4' ++ 58 :: (d5 ++ 58 :: d6))) (84 :: (zs 2 ++ 58 :: (zs 2 ++ 58 :: zs 2))) 0 false ([] ++ [10 ^ 4 * 0 + (valL d1 : Int)] ++ [10 ^ 2 * 0 + (valL d2 : Int)]) h3.2 (ne h3.1 (by decide))
  rw [h3.1] at f3
  rw [f3, readG_sep (by decide)]
  have f4 := readG_digs d4' (58 :: (d5 ++ 58 :: d6)) (58 :: (zs 2 ++ 58 :: zs 2)) 0 false ([] ++ [10 ^ 4 * 0 + (valL d1 : Int)] ++ [10 ^ 2 * 0 + (valL d2 : Int)] ++ [10 ^ 2 * 0 + (valL d3 : Int)]) h4.2 (ne h4.1 (by decide))
  rw [h4.1] at f4
  rw [f4, readG_sep (by decide)]
  have f5 := readG_digs d5 (58 :: d6) (58 :: zs 2) 0 false ([] ++ [10 ^ 4 * 0 + (valL d1 : Int)] ++ [10 ^ 2 * 0 + (valL d2 : Int)] ++ [10 ^ 2 * 0 + (valL d3 : Int)] ++ [10 ^ 2 * 0 + (valL d4' : Int)]) h5.2 (ne h5.1 (by decide))
  rw [h5.1] at f5
  rw [f5, readG_sep (by decide)]
  have f6 := readG_digs d6 [] [] 0 false ([] ++ [10 ^ 4 * 0 + (valL d1 : Int)] ++ [10 ^ 2 * 0 + (valL d2 : Int)] ++ [10 ^ 2 * 0 + (valL d3 : Int)] ++ [10 ^ 2 * 0 + (valL d4' : Int)] ++ [10 ^ 2 * 0 + (valL d5 : Int)]) h6.2 (ne h6.1 (by decide))
  rw [h6.1, List.append_nil, List.append_nil] at f6
  rw [f6, readG]
  simp
theorem dist_read {off : Int} (h : -89999 ≤ off ∧ off ≤ 93599) : awayL (distB off) = (off, true) := by
  generalize ha : (if off < 0 then -off else off) = a
  have hab : 0 ≤ a ∧ a ≤ 93599 := by rw [← ha]; split <;> omega
  have hd : distB off = (if off < 0 then 45 else 43) :: (pairP (a / 3600) ++ 58 :: (pairP (a / 60 % 60) ++ (if a % 60 ≠ 0 then 58 :: pairP (a % 60) else []))) := by unfold distB; rw [ha]
  obtain ⟨p1, p2, p3, p4⟩ := dd_digs (n := a / 3600) (by omega) (by omega)
  obtain ⟨q1, q2, q3, q4⟩ := dd_digs (n := a / 60 % 60) (by omega) (by omega)
  obtain ⟨r1, r2, r3, r4⟩ := dd_digs (n := a % 60) (by omega) (by omega)
  have ne : ∀ {l : List UInt8}, l.length = 2 → l ≠ [] := fun hl e => by subst e; simp at hl
  rw [p4, q4, r4] at hd
  have hg : ∀ g : UInt8, (if off < 0 then (45 : UInt8) else 43) = g → ¬ (g ≠ 43 ∧ g ≠ 45) ∧ (g == 45) = decide (off < 0) := fun g hg => by
    by_cases e : off < 0
    · rw [if_pos e] at hg; subst hg; rw [decide_eq_true e]; exact ⟨by decide, rfl⟩
    · rw [if_neg e] at hg; subst hg; rw [decide_eq_false e]; exact ⟨by decide, rfl⟩
  obtain ⟨g1, g2⟩ := hg _ rfl
  have fin : ∀ ns : List Int, sumO (decide (off < 0)) ns = off → (sumO (decide (off < 0)) ns, distB (sumO (decide (off < 0)) ns) == distB off) = (off, true) := fun ns e => by rw [e]; simp
  by_cases hz : a % 60 ≠ 0
  · rw [if_pos hz] at hd
    have hl : (distB off).length = 9 := by rw [hd]; simp [p1, q1, r1]
    have hr : readG (dd (a / 3600) ++ 58 :: (dd (a / 60 % 60) ++ 58 :: dd (a % 60))) shE 0 false [] = (true, [a / 3600, a / 60 % 60, a % 60]) := by
      have f1 := readG_digs (dd (a / 3600)) (58 :: (dd (a / 60 % 60) ++ 58 :: dd (a % 60))) (58 :: (zs 2 ++ 58 :: zs 2)) 0 false [] p2 (ne p1)
      rw [p1] at f1
      have f1 : readG _ shE 0 false [] = _ := f1
      rw [f1, readG_sep (by decide)]
      have f2 := readG_digs (dd (a / 60 % 60)) (58 :: dd (a % 60)) (58 :: zs 2) 0 false ([] ++ [10 ^ 2 * 0 + (valL (dd (a / 3600)) : Int)]) q2 (ne q1)
      rw [q1] at f2
      rw [f2, readG_sep (by decide)]
      have f3 := readG_digs (dd (a % 60)) [] [] 0 false ([] ++ [10 ^ 2 * 0 + (valL (dd (a / 3600)) : Int)] ++ [10 ^ 2 * 0 + (valL (dd (a / 60 % 60)) : Int)]) r2 (ne r1)
      rw [r1, List.append_nil, List.append_nil] at f3
      rw [f3, readG, p3, q3, r3]
      simp
      omega
    unfold awayL
    rw [hl, hd]
    simp only
    rw [if_neg g1]
    simp only [show (6 : Nat) < 9 from by decide, if_true]
    rw [hr, g2]
    simp only [Bool.true_eq_false, if_false]
    rw [← hd]
    refine fin _ ?_
    rw [sumO]
    by_cases e : off < 0
    · rw [if_pos (by simpa using e)]; rw [if_pos e] at ha; omega
    · rw [if_neg (by simpa using e)]; rw [if_neg e] at ha; omega
  · rw [if_neg hz, List.append_nil] at hd
    have hl : (distB off).length = 6 := by rw [hd]; simp [p1, q1]
    have hr : readG (dd (a / 3600) ++ 58 :: dd (a / 60 % 60)) shD 0 false [] = (true, [a / 3600, a / 60 % 60]) := by
      have f1 := readG_digs (dd (a / 3600)) (58 :: dd (a / 60 % 60)) (58 :: zs 2) 0 false [] p2 (ne p1)
      rw [p1] at f1
      have f1 : readG _ shD 0 false [] = _ := f1
      rw [f1, readG_sep (by decide)]
      have f2 := readG_digs (dd (a / 60 % 60)) [] [] 0 false ([] ++ [10 ^ 2 * 0 + (valL (dd (a / 3600)) : Int)]) q2 (ne q1)
      rw [q1, List.append_nil, List.append_nil] at f2
      rw [f2, readG, p3, q3]
      simp
      omega
    unfold awayL
    rw [hl, hd]
    simp only
    rw [if_neg g1]
    simp only [Nat.lt_irrefl, if_false]
    rw [hr, g2]
    simp only [Bool.true_eq_false, if_false]
    rw [← hd]
    refine fin _ ?_
    rw [sumO]
    by_cases e : off < 0
    · rw [if_pos (by simpa using e)]; rw [if_pos e] at ha; omega
    · rw [if_neg (by simpa using e)]; rw [if_neg e] at ha; omega
theorem okC_iff {c : Cv} : okC c = true ↔ (-719162 ≤ c.d ∧ c.d ≤ 2932896) ∧ (0 ≤ c.h ∧ c.h ≤ 23) ∧ (0 ≤ c.m ∧ c.m ≤ 59) ∧ (0 ≤ c.s ∧ c.s ≤ 60) ∧ (-89999 ≤ c.off ∧ c.off ≤ 93599) ∧ abbrL c.ab = true := by
  unfold okC
  simp only [Bool.and_eq_true, decide_eq_true_eq, and_assoc]
theorem no32_digs {l : List UInt8} (h : ∀ c ∈ l, isDig c = true) : (32 : UInt8) ∉ l := fun hc => by
  have := h _ hc
  exact absurd this (by decide)
theorem dist_no32 {off : Int} (h : -89999 ≤ off ∧ off ≤ 93599) : (32 : UInt8) ∉ distB off := by
  unfold distB
  generalize ha : (if off < 0 then -off else off) = a
  have hab : 0 ≤ a ∧ a ≤ 93599 := by rw [← ha]; split <;> omega
  obtain ⟨p1, p2, p3, p4⟩ := dd_digs (n := a / 3600) (by omega) (by omega)
  obtain ⟨q1, q2, q3, q4⟩ := dd_digs (n := a / 60 % 60) (by omega) (by omega)
  obtain ⟨r1, r2, r3, r4⟩ := dd_digs (n := a % 60) (by omega) (by omega)
  rw [p4, q4, r4]
  intro hc
  simp only [List.mem_cons, List.mem_append] at hc
  rcases hc with hc | hc | hc | hc | hc
  · split at hc <;> exact absurd hc (by decide)
  · exact no32_digs p2 hc
  · exact absurd hc (by decide)
  · exact no32_digs q2 hc
  · split at hc
    · rcases List.mem_cons.1 hc with hc | hc
      · exact absurd hc (by decide)
      · exact no32_digs r2 hc
    · cases hc
theorem split_at {a b : List UInt8} {c : UInt8} (h : c ∉ a) : splitL c (a ++ c :: b) = (a, b, true) := by
  have hn : nl (· == c) (a ++ c :: b) = a.length := nl_of _ _ _ (by simp) (fun x hx => by
    rw [List.take_left] at hx
    simp only [beq_eq_false_iff_ne, ne_eq]
    exact fun e => h (e ▸ hx)) (fun hlt => by simp)
  unfold splitL
  rw [hn, if_pos (by simp), List.take_left]
  simp [List.drop_append]
theorem cparse_text {c : Cv} (h : okC c = true) : cparseL (ctextB c) = (⟨c.d, c.h, c.m, c.s, c.off, false, c.ab⟩, true) := by
  obtain ⟨h1, h2, h3, h4, h5, h6⟩ := okC_iff.1 h
  obtain ⟨⟨v1, v2, v3, v4, v5, v6⟩, v7⟩ := num_date h1.1 h1.2
  have hdim := dim_bd (yearP c.d) (monP c.d)
  obtain ⟨y1, y2, y3⟩ := d4_digs (n := yearP c.d) (by omega) (by omega)
  obtain ⟨m1, m2, m3, _⟩ := dd_digs (n := monP c.d) (by omega) (by omega)
  obtain ⟨d1, d2, d3, _⟩ := dd_digs (n := dayP c.d) (by omega) (by omega)
  obtain ⟨p1, p2, p3, p4⟩ := dd_digs (n := c.h) (by omega) (by omega)
  obtain ⟨q1, q2, q3, q4⟩ := dd_digs (n := c.m) (by omega) (by omega)
  obtain ⟨r1, r2, r3, r4⟩ := dd_digs (n := c.s) (by omega) (by omega)
  have ht : ctextB c = (d4 (yearP c.d) ++ 45 :: (dd (monP c.d) ++ 45 :: (dd (dayP c.d) ++ 84 :: (dd c.h ++ 58 :: (dd c.m ++ 58 :: dd c.s)))) ++ distB c.off) ++ 32 :: c.ab := by
    unfold ctextB dayL
    rw [p4, q4, r4]
    simp
  have hsp : splitL 32 (ctextB c) = (d4 (yearP c.d) ++ 45 :: (dd (monP c.d) ++ 45 :: (dd (dayP c.d) ++ 84 :: (dd c.h ++ 58 :: (dd c.m ++ 58 :: dd c.s)))) ++ distB c.off, c.ab, true) := by
    rw [ht]
    refine split_at fun hc => ?_
    simp only [List.mem_append, List.mem_cons] at hc
    rcases hc with (hc | hc | hc | hc | hc | hc | hc | hc | hc | hc | hc) | hc
    · exact no32_digs y2 hc
    · exact absurd hc (by decide)
    · exact no32_digs m2 hc
    · exact absurd hc (by decide)
    · exact no32_digs d2 hc
    · exact absurd hc (by decide)
    · exact no32_digs p2 hc
    · exact absurd hc (by decide)
    · exact no32_digs q2 hc
    · exact absurd hc (by decide)
    · exact no32_digs r2 hc
    · exact dist_no32 h5 hc
  unfold cparseL
  rw [hsp]
  simp only
  have hlen : (d4 (yearP c.d) ++ 45 :: (dd (monP c.d) ++ 45 :: (dd (dayP c.d) ++ 84 :: (dd c.h ++ 58 :: (dd c.m ++ 58 :: dd c.s))))).length = 19 := by simp [y1, m1, d1, p1, q1, r1]
  have hrd := clock_read (d4 (yearP c.d)) (dd (monP c.d)) (dd (dayP c.d)) (dd c.h) (dd c.m) (dd c.s) ⟨y1, y2⟩ ⟨m1, m2⟩ ⟨d1, d2⟩ ⟨p1, p2⟩ ⟨q1, q2⟩ ⟨r1, r2⟩
  generalize d4 (yearP c.d) ++ 45 :: (dd (monP c.d) ++ 45 :: (dd (dayP c.d) ++ 84 :: (dd c.h ++ 58 :: (dd c.m ++ 58 :: dd c.s)))) = X at *
  unfold cparseB
  rw [if_neg (by rw [List.length_append]; omega), List.take_left' hlen, List.drop_left' hlen, hrd, dist_read h5]
  simp only [Bool.true_eq_false, or_self, if_false]
  rw [y3, m3, d3, p3, q3, r3, show ((yearP c.d).toNat : Int) = yearP c.d by omega, show ((monP c.d).toNat : Int) = monP c.d by omega, show ((dayP c.d).toNat : Int) = dayP c.d by omega,
    show (c.h.toNat : Int) = c.h by omega, show (c.m.toNat : Int) = c.m by omega, show (c.s.toNat : Int) = c.s by omega, v7]
  rw [if_pos ⟨⟨v1, v2, v3, v4, v5, v6⟩, okC_iff.2 ⟨h1, h2, h3, h4, h5, h6⟩⟩]
theorem away_dist {l : List UInt8} (h : (awayL l).2 = true) : distB (awayL l).1 = l := by
  cases l with
  | nil => cases h
  | cons g r =>
    unfold awayL at h ⊢
    simp only at h ⊢
    generalize readG r (if 6 < (g :: r).length then shE else shD) 0 false [] = p at *
    by_cases k1 : g ≠ 43 ∧ g ≠ 45
    · rw [if_pos k1] at h; cases h
    rw [if_neg k1] at h ⊢
    by_cases k2 : p.1 = false
    · rw [if_pos k2] at h; cases h
    rw [if_neg k2] at h ⊢
    exact beq_iff_eq.1 h
theorem ctext_parse {s : List UInt8} (h : (cparseL s).2 = true) : okC (cparseL s).1 = true ∧ ctextB (cparseL s).1 = s ∧ (cparseL s).1.dst = false := by
  unfold cparseL at h ⊢
  have hsp : (splitL 32 s).2.1 ≠ [] → s = (splitL 32 s).1 ++ 32 :: (splitL 32 s).2.1 := fun hne => by
    unfold splitL at hne ⊢
    by_cases e : nl (· == 32) s < s.length
    · rw [if_pos e]
      simp only
      have hc := (nl_spec (· == 32) s _ e).2 rfl
      have := List.drop_eq_getElem_cons e
      have e2 := List.take_append_drop (nl (· == 32) s) s
      rw [this] at e2
      have hc : s[nl (· == 32) s] = 32 := by simpa using hc
      rw [hc] at e2
      exact e2.symm
    · rw [if_neg e] at hne; exact absurd rfl hne
  generalize (splitL 32 s).1 = b at *
  generalize (splitL 32 s).2.1 = nm at *
  unfold cparseB at h ⊢
  by_cases h0 : b.length < 19
  · rw [if_pos h0] at h; cases h
  rw [if_neg h0] at h ⊢
  by_cases h1 : (readG (b.take 19) shC 0 false []).1 = false ∨ (awayL (b.drop 19)).2 = false
  · rw [if_pos h1] at h; cases h
  rw [if_neg h1] at h ⊢
  have hr : (readG (b.take 19) shC 0 false []).1 = true := by
    cases e : (readG (b.take 19) shC 0 false []).1
    · exact absurd (.inl e) h1
    · rfl
  have ha : (awayL (b.drop 19)).2 = true := by
    cases e : (awayL (b.drop 19)).2
    · exact absurd (.inr e) h1
    · rfl
  obtain ⟨d1, d2, d3, d4', d5, d6, e0, g1, g2, g3, g4, g5, g6, e1⟩ := read_clock hr
  rw [e1] at h ⊢
  simp only at h ⊢
  split at h
  case isFalse => cases h
  rename_i hok
  rw [if_pos hok]
  refine ⟨hok.2, ?_, rfl⟩
  obtain ⟨o1, o2, o3, o4, o5, o6⟩ := okC_iff.1 hok.2
  obtain ⟨w1, w2⟩ := d4_val g1.1 g1.2
  obtain ⟨w3, w4⟩ := dd_val g2.1 g2.2
  obtain ⟨w5, w6⟩ := dd_val g3.1 g3.2
  obtain ⟨w7, w8⟩ := dd_val g4.1 g4.2
  obtain ⟨w9, w10⟩ := dd_val g5.1 g5.2
  obtain ⟨w11, w12⟩ := dd_val g6.1 g6.2
  have hdn := date_num hok.1
  have haw : distB (awayL (b.drop 19)).1 = b.drop 19 := away_dist ha
  have hne : nm ≠ [] := by
    intro e
    have o6 : abbrL nm = true := o6
    rw [e] at o6
    exact absurd o6 (by decide)
  rw [hsp hne]
  unfold ctextB dayL
  simp only
  rw [hdn.1, hdn.2.1, hdn.2.2, (dd_digs (n := (valL d4' : Int)) (by omega) (by omega)).2.2.2, (dd_digs (n := (valL d5 : Int)) (by omega) (by omega)).2.2.2, (dd_digs (n := (valL d6 : Int)) (by omega) (by omega)).2.2.2,
    w1, w3, w5, w7, w9, w11, haw]
  have e9 := List.take_append_drop 19 b
  rw [e0] at e9
  generalize b.drop 19 = R at e9 ⊢
  rw [← e9]
  simp
theorem read_D {l : List UInt8} (h : (readG l shD 0 false []).1 = true) : ∃ a b : Int, (readG l shD 0 false []).2 = [a, b] ∧ (0 ≤ a ∧ a ≤ 99) ∧ (0 ≤ b ∧ b ≤ 99) := by
  obtain ⟨d1, r1, e1, a1, b1, c1⟩ := readG_field 2 58 (by decide) l (zs 2) [] false (by decide) h
  have c1 : readG l shD 0 false [] = _ := c1
  rw [c1] at h ⊢
  obtain ⟨a6, b6, c6⟩ := readG_last 2 r1 _ _ (by decide) h
  rw [c6]
  have := (dd_val a1 b1).2
  have := (dd_val a6 b6).2
  exact ⟨_, _, rfl, by omega, by omega⟩
theorem read_E {l : List UInt8} (h : (readG l shE 0 false []).1 = true) : ∃ a b c : Int, (readG l shE 0 false []).2 = [a, b, c] ∧ (0 ≤ a ∧ a ≤ 99) ∧ (0 ≤ b ∧ b ≤ 99) ∧ (0 ≤ c ∧ c ≤ 99) := by
  obtain ⟨d1, r1, e1, a1, b1, c1⟩ := readG_field 2 58 (by decide) l (zs 2 ++ 58 :: zs 2) [] false (by decide) h
  have c1 : readG l shE 0 false [] = _ := c1
  rw [c1] at h ⊢
  obtain ⟨d2, r2, e2, a2, b2, c2⟩ := readG_field 2 58 (by decide) r1 _ _ _ (by decide) h
  rw [c2] at h ⊢
  obtain ⟨a6, b6, c6⟩ := readG_last 2 r2 _ _ (by decide) h
  rw [c6]
  have := (dd_val a1 b1).2
  have := (dd_val a2 b2).2
  have := (dd_val a6 b6).2
  exact ⟨_, _, _, rfl, by omega, by omega, by omega⟩
end Go.Proofs.YtodmkipcgfodkaaGreatDoor.Pl
end
section
set_option linter.unusedVariables false
set_option linter.unusedSimpArgs false
namespace Go.Proofs.YtodmkipcgfodkaaGreatDoor.Pl
open Go Go.Proofs.YtodmkipcgfodkaaGreatDoor.Eng
set_option linter.unusedVariables false
set_option linter.unusedSimpArgs false
def be : Nat → Int → List UInt8
  | 0, _ => []
  | k + 1, n => UInt8.ofNat ((n / (256 : Int) ^ k) % 256).toNat :: be k n
end Go.Proofs.YtodmkipcgfodkaaGreatDoor.Pl
end
section
set_option linter.unusedVariables false
set_option linter.unusedSimpArgs false
namespace Go.Proofs.YtodmkipcgfodkaaGreatDoor.Pl
open Go Go.Proofs.YtodmkipcgfodkaaGreatDoor.Eng
set_option linter.unusedVariables false
set_option linter.unusedSimpArgs false
theorem wi32_in (n : Int) : (wi32 n = n) ↔ (-2147483648 ≤ n ∧ n ≤ 2147483647) := by
  simp only [wi32, IntKind.wrap, IntKind.bits, IntKind.signed]
  simp
  split <;> omega
end Go.Proofs.YtodmkipcgfodkaaGreatDoor.Pl
end
section
set_option linter.unusedVariables false
set_option linter.unusedSimpArgs false
namespace Go.Proofs.YtodmkipcgfodkaaGreatDoor
open Go Go.Proofs.YtodmkipcgfodkaaGreatDoor.Eng Go.Proofs.YtodmkipcgfodkaaGreatDoor.Pl
set_option linter.unusedVariables false
set_option linter.unusedSimpArgs false
theorem sHasPrefix (l : List UInt8) (c : UInt8) {K} (h : K (l.head? == some c)) : Xinternal_stringslite_HasPrefix (S l) (S [c]) K := by
  unfold Xinternal_stringslite_HasPrefix Yinternal_stringslite_HasPrefix
  simp only [S_size, S_extract, S_toList, decide_eq_true_eq, ge_iff_le, List.length_singleton]
  cases l with
  | nil => exact ifF (by simp) h
  | cons a l =>
    refine ifT (by simp; omega) (ifT (by simp; omega) ?_)
    have e : ((List.take (Int.toNat (((1 : Nat) : Int)) - 0) (List.drop 0 (a :: l)) == [c]) : Bool) = ((a :: l).head? == some c) := by
      simp
    rw [e]; exact h
theorem sCutPrefix (l : List UInt8) (c : UInt8) {K} (h : K (S (cutP c l).1) (cutP c l).2) : Xstrings_CutPrefix (S l) (S [c]) K := by
  unfold Xstrings_CutPrefix Ystrings_CutPrefix Xinternal_stringslite_CutPrefix Yinternal_stringslite_CutPrefix
  refine sHasPrefix l c ?_
  unfold cutP at h
  by_cases e : l.head? = some c
  · rw [if_pos e] at h
    refine ifF (by simp [e]) ?_
    have hl : 1 ≤ l.length := by cases l <;> simp at e ⊢
    simp only [S_size, S_extract, List.length_singleton]
    refine ifT (by omega) (ifT (by omega) ?_)
    have e2 : (l.drop (Int.toNat ((1 : Nat) : Int))).take (Int.toNat (l.length : Int) - Int.toNat ((1 : Nat) : Int)) = l.tail := by
      rw [List.take_of_length_le (by simp)]; simp
    rw [e2]; exact h
  · rw [if_neg e] at h
    exact ifT (by simp [e]) h
theorem sIndex (l : List UInt8) (c : UInt8) {K} (h : K (if nl (· == c) l < l.length then (nl (· == c) l : Int) else -1)) : Xinternal_stringslite_Index (S l) (S [c]) K := by
  unfold Xinternal_stringslite_Index Yinternal_stringslite_Index
  simp only [S_size, S_toList, beq_iff_eq, List.length_singleton]
  refine ifF (by decide) (ifC (fun e => ?_) fun _ => ifT rfl (ifT (by decide) ?_))
  · subst e
    have : nl (· == c) [c] = 0 := by rw [nl_cons]; simp
    rw [this] at h; exact h
  · unfold XindexByte
    rw [indexByte_nl, S_data]
    have : (Eng.bAt (S [c]) 0).toNat.toUInt8 = c := by rw [bAt0]; simp
    rw [this]; exact h
theorem sCut (l : List UInt8) (c : UInt8) (hl : l.length ≤ 140737488351232) {K} (h : K (S (splitL c l).1) (S (splitL c l).2.1) (splitL c l).2.2) : Xstrings_Cut (S l) (S [c]) K := by
  unfold Xstrings_Cut Ystrings_Cut Xinternal_stringslite_Cut Yinternal_stringslite_Cut
  refine sIndex l c ?_
  unfold splitL at h
  simp only [S_size, S_extract, List.length_singleton, decide_eq_true_eq, ge_iff_le]
  by_cases e : nl (· == c) l < l.length
  · rw [if_pos e] at h
    simp only [if_pos e]
    rw [w64_in (by omega) (by omega)]
    refine ifT (by omega) (ifT (by omega) (ifT (by omega) (ifT (by omega) (ifT (by omega) ?_))))
    have e1 : Int.toNat ((nl (· == c) l : Int) + ((1 : Nat) : Int)) = nl (· == c) l + 1 := by omega
    have e2 : Int.toNat ((nl (· == c) l : Int)) = nl (· == c) l := by omega
    rw [e1, e2]
    rw [show (l.drop (nl (· == c) l + 1)).take (Int.toNat (l.length : Int) - (nl (· == c) l + 1)) = l.drop (nl (· == c) l + 1) from List.take_of_length_le (by simp)]
    exact h
  · rw [if_neg e] at h
    simp only [if_neg e]
    exact ifF (by omega) h
theorem sTrimPrefix (l : List UInt8) (c : UInt8) {K} (h : K (S (cutP c l).1)) : Xstrings_TrimPrefix (S l) (S [c]) K := by
  unfold Xstrings_TrimPrefix Ystrings_TrimPrefix Xinternal_stringslite_TrimPrefix Yinternal_stringslite_TrimPrefix
  refine sHasPrefix l c ?_
  unfold cutP at h
  by_cases e : l.head? = some c
  · rw [if_pos e] at h
    refine ifT (by simp [e]) ?_
    have hl : 1 ≤ l.length := by cases l <;> simp at e ⊢
    simp only [S_size, S_extract, List.length_singleton]
    refine ifT (by omega) (ifT (by omega) ?_)
    have e2 : (l.drop (Int.toNat ((1 : Nat) : Int))).take (Int.toNat (l.length : Int) - Int.toNat ((1 : Nat) : Int)) = l.tail := by
      rw [List.take_of_length_le (by simp)]; simp
    rw [e2]; exact h
  · rw [if_neg e] at h
    exact ifF (by simp [e]) h
theorem sIndexFunc {x : Int → (Bool → Prop) → Prop} (q : UInt8 → Bool) (hx : ∀ (c : UInt8) (K : Bool → Prop), c.toNat < 128 → K (q c) → x (c.toNat : Int) K) (hx' : ∀ (n : Nat) (K : Bool → Prop), 128 ≤ n → K true → x (n : Int) K)
    (hq : ∀ c : UInt8, 128 ≤ c.toNat → q c = true) (l : List UInt8) {K : Int → Prop} (h : K (if nl q l < l.length then (nl q l : Int) else -1)) : Ystrings_indexFunc x (S l) true K := by
  unfold Ystrings_indexFunc
  refine lp_ind (fun st => l.length - st.2.1.2) (fun st => st.1.2.1 = true ∧ st.2.1.1 = S l ∧ st.2.1.2 ≤ l.length ∧ ∀ c ∈ l.take st.2.1.2, q c = false) ?_ ⟨rfl, rfl, Nat.zero_le _, by simp⟩
  rintro ⟨⟨⟨_, _⟩, b, r, _, _⟩, ⟨s, pos⟩, _⟩ ⟨h1, h2, h3, h4⟩ k hk
  simp only at h1 h2 h3 h4 hk
  subst h1; subst h2
  unfold Lstrings_indexFunc_0
  simp only [S_size]
  refine ifC (fun hp => ?_) fun hp => ?_
  · by_cases hlo : l[pos].toNat < 128
    · simp only [decode_lo l pos hp hlo]
      refine hx _ _ hlo ?_
      refine ifC (fun hb => ?_) fun hb => ?_
      · have hn : nl q l = pos := nl_of q l pos h3 h4 fun _ => by simpa using hb
        rw [hn, if_pos hp] at h; exact h
      · refine hk _ ⟨rfl, rfl, hp, fun c hc => ?_⟩ (by simp only; omega)
        rw [List.take_add_one, List.mem_append] at hc
        rcases hc with hc | hc
        · exact h4 c hc
        · simp [List.getElem?_eq_getElem hp] at hc
          subst hc; simpa using hb
    · obtain ⟨d1, d2⟩ := decode_hi l pos hp (by omega)
      refine hx' _ _ d1 (ifT rfl ?_)
      have hn : nl q l = pos := nl_of q l pos h3 h4 fun _ => hq _ (by omega)
      rw [hn, if_pos hp] at h; exact h
  · have hpos : pos = l.length := by omega
    have hn : nl q l = l.length := nl_of q l _ (Nat.le_refl _) (by rw [← hpos]; exact h4) fun h => by omega
    rw [hn, if_neg (by omega)] at h; exact h
theorem sgood (n : Int) {K} (h : K (decide ((97 ≤ n ∧ n ≤ 122) ∨ (65 ≤ n ∧ n ≤ 90) ∨ (48 ≤ n ∧ n ≤ 57) ∨ n = 43 ∨ n = 45))) : Xabbr_good n K := by
  unfold Xabbr_good Yabbr_good
  simp only [decide_eq_true_eq, beq_iff_eq, ge_iff_le]
  repeat' (first | refine ifT (by omega) ?_ | refine ifF (by omega) ?_ | refine ifC (fun _ => ?_) (fun _ => ?_))
  all_goals (refine cast (congrArg K ?_) h; first | (rw [decide_eq_true_eq]; omega) | (rw [decide_eq_false_iff_not]; omega) | (apply Bool.eq_iff_iff.2; rw [decide_eq_true_eq, beq_iff_eq]; omega))
theorem sbad (n : Int) {K} (h : K (!decide ((97 ≤ n ∧ n ≤ 122) ∨ (65 ≤ n ∧ n ≤ 90) ∨ (48 ≤ n ∧ n ≤ 57) ∨ n = 43 ∨ n = 45))) : Xabbr_Right_1 n K := by
  unfold Xabbr_Right_1 Yabbr_Right_1
  exact sgood n h
theorem sabbr (l : List UInt8) {K} (h : K (abbrL l)) : Xabbr_Right (S l) K := by
  unfold Xabbr_Right Yabbr_Right
  unfold abbrL at h
  simp only [decide_eq_true_eq, ge_iff_le, S_size]
  by_cases e : 3 ≤ l.length ∧ l.length ≤ 16
  · refine ifT (by omega) (ifT (by omega) ?_)
    unfold Xstrings_ContainsFunc Ystrings_ContainsFunc Xstrings_IndexFunc Ystrings_IndexFunc Xstrings_indexFunc
    refine sIndexFunc badC (fun c K hc h => sbad _ (cast (congrArg K ?_) h)) (fun n K hn h => sbad _ (cast (congrArg K ?_) h)) (fun c hc => ?_) l ?_
    · unfold badC; apply Bool.eq_iff_iff.2; simp; omega
    · symm; simp; omega
    · unfold badC; simp; omega
    · rw [decide_eq_true e, Bool.true_and, nl_any] at h
      by_cases e2 : nl badC l < l.length
      · rw [if_pos e2]; rw [decide_eq_true e2] at h
        refine cast (congrArg K ?_) h; simp
      · rw [if_neg e2]; rw [decide_eq_false e2] at h
        refine cast (congrArg K ?_) h; simp
  · rw [decide_eq_false e, Bool.false_and] at h
    exact ifC (fun _ => ifF (by omega) h) fun _ => h
end Go.Proofs.YtodmkipcgfodkaaGreatDoor
end
