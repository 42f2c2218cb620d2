/- What the functions come to in plain data, with proofs, and what that answers. -/
import Derived.Test.YtenaflbcnkalbaaGreatDoorJRightPlain0
import Derived.Lib.Strings
import Derived.Lib.Atoi
import Derived.Laws.Concat
import Derived.Laws.RangeAny
import Derived.Lib.Bytealg
import Derived.Lib.Join
section
set_option linter.unusedVariables false
set_option linter.unusedSimpArgs false
namespace Go.Proofs.YtenaflbcnkalbaaGreatDoor
open Go Go.Proofs.YtenaflbcnkalbaaGreatDoor.Eng
set_option linter.unusedVariables false
set_option maxRecDepth 100000
set_option maxHeartbeats 4000000
variable {G : Gs}
abbrev Tday_Number : Type := Int → Int → Int → (Int → Bool → Prop) → Prop
def Yday_Number (xday_Last : Tday_Last) (xnum_Div : Tnum_Div) (a0 : Int) (a1 : Int) (a2 : Int) (K : Int → Bool → Prop) : Prop :=
 xday_Last a0 a1 (fun r3 r4 =>
 (if (!r4) then
 K 0 false
 else
 (if decide (a2 < 1) then
 K 0 false
 else
 (if decide (a2 > r3) then
 K 0 false
 else
 (if decide (a1 < 3) then
 xnum_Div (w64 (a0 - 1)) 400 (fun r5 r6 r7 =>
 (lt (w64 (w64 (a1 + 12) - 3)) fun v8 =>
 (lt (w64 (w64 (153 * v8) + 2)) fun v9 =>
 (lt (w64 (w64 (Int.tdiv v9 5) + a2)) fun v10 =>
 (lt (w64 (w64 (146097 * r5) + w64 (365 * r6))) fun v11 =>
 (lt (w64 (v11 + w64 (Int.tdiv r6 4))) fun v12 =>
 (lt (w64 (v12 - w64 (Int.tdiv r6 100))) fun v13 =>
 (lt (w64 (v13 + w64 (v10 - 1))) fun v14 =>
 K (w64 (v14 - 719468)) true))))))))
 else
 xnum_Div a0 400 (fun r15 r16 r17 =>
 (lt (w64 (153 * w64 (a1 - 3))) fun v18 =>
 (lt (w64 (Int.tdiv (w64 (v18 + 2)) 5)) fun v19 =>
 (lt (w64 (w64 (v19 + a2) - 1)) fun v20 =>
 (lt (w64 (w64 (146097 * r15) + w64 (365 * r16))) fun v21 =>
 (lt (w64 (v21 + w64 (Int.tdiv r16 4))) fun v22 =>
 (lt (w64 (v22 - w64 (Int.tdiv r16 100))) fun v23 =>
 (lt (w64 (w64 (v23 + v20) - 719468)) fun v24 =>
 K v24 true)))))))))))))
def Xday_Number : Tday_Number := Yday_Number Xday_Last Xnum_Div
def Jday_Number (X : Tday_Number) : Inst := mkI 142 pL20 .nil pL25 .nil X
def Iday_Number : Inst := Jday_Number Xday_Number
theorem Eday_Number (xday_Last : Tday_Last) (xnum_Div : Tnum_Div) : EqF Tryz.prog 65 gives Tryz.f142 [Jday_Last xday_Last, Jnum_Div xnum_Div] [] (Jday_Number (Yday_Number xday_Last xnum_Div)) := fun x y K => by kernel_rfl
theorem Iday_Number_ok : InstOk Tryz.prog G.1 Iday_Number := iok (gives := gives) [] (okCons Iday_Last_ok (okCons Inum_Div_ok okNil)) 65 follows Tryz.func142 (by kernel_rfl) (fun x => by kernel_rfl) (Eday_Number Xday_Last Xnum_Div)
abbrev Tday_Week : Type := Int → (Int → Prop) → Prop
def Yday_Week (xnum_Div : Tnum_Div) (a0 : Int) (K : Int → Prop) : Prop :=
 xnum_Div (w64 (Int.tmod a0 (7 :Int) + 4)) 7 (fun r1 r2 r3 =>
 K r2)
def Xday_Week : Tday_Week := Yday_Week Xnum_Div
def Jday_Week (X : Tday_Week) : Inst := mkI 287 pL6 .nil pL6 .nil X
def Iday_Week : Inst := Jday_Week Xday_Week
theorem Eday_Week (xnum_Div : Tnum_Div) : EqF Tryz.prog 15 gives Tryz.f287 [Jnum_Div xnum_Div] [] (Jday_Week (Yday_Week xnum_Div)) := fun x y K => by kernel_rfl
theorem Iday_Week_ok : InstOk Tryz.prog G.1 Iday_Week := iok (gives := gives) [] (okCons Inum_Div_ok okNil) 15 follows Tryz.func287 (by kernel_rfl) (fun x => by kernel_rfl) (Eday_Week Xnum_Div)
abbrev Trule_Day : Type := Q57 → Int → (Int → Bool → Prop) → Prop
def Yrule_Day (xday_Number : Tday_Number) (xrule_Right : Trule_Right) (xday_Leap : Tday_Leap) (xday_Last : Tday_Last) (xday_Week : Tday_Week) (a0 : Q57) (a1 : Int) (K : Int → Bool → Prop) : Prop :=
 xday_Number a1 1 1 (fun r2 r3 =>
 (if (!r3) then
 K 0 false
 else
 xrule_Right a0 (fun r4 =>
 (if (!r4) then
 K 0 false
 else
 (if (a0.1 == 2) then
 K (w64 (r2 + a0.2.1)) true
 else
 (if (a0.1 == 1) then
 (if decide (a0.2.1 ≤ 59) then
 (lt (w64 (w64 (r2 - 1) + a0.2.1)) fun v5 =>
 K v5 true)
 else
 xday_Leap a1 (fun r6 =>
 (if (!r6) then
 (lt (w64 (w64 (r2 - 1) + a0.2.1)) fun v7 =>
 K v7 true)
 else
 K (w64 (r2 + a0.2.1)) true)))
 else
 xday_Number a1 a0.2.1 1 (fun r8 r9 =>
 xday_Last a1 a0.2.1 (fun r10 r11 =>
 (lt (w64 (7 * w64 (a0.2.2.1 - 1))) fun v12 =>
 xday_Week r8 (fun r13 =>
 (lt (w64 (w64 (a0.2.2.2.1 - r13) + 7)) fun v14 =>
 (lt (decide (w64 (Int.tmod v14 7 + v12) ≥ r10)) fun v15 =>
 (if v15 then
 (lt (w64 (w64 (Int.tmod v14 7 + v12) - 7)) fun v16 =>
 K (w64 (r8 + v16)) true)
 else
 (lt (w64 (r8 + w64 (Int.tmod v14 7 + v12))) fun v17 =>
 K v17 true))))))))))))))
def Xrule_Day : Trule_Day := Yrule_Day Xday_Number Xrule_Right Xday_Leap Xday_Last Xday_Week
def Jrule_Day (X : Trule_Day) : Inst := mkI 268 pL89 .nil pL25 .nil X
def Irule_Day : Inst := Jrule_Day Xrule_Day
theorem Erule_Day (xday_Number : Tday_Number) (xrule_Right : Trule_Right) (xday_Leap : Tday_Leap) (xday_Last : Tday_Last) (xday_Week : Tday_Week) : EqF Tryz.prog 83 gives Tryz.f268 [Jday_Number xday_Number, Jrule_Right xrule_Right, Jday_Leap xday_Leap, Jday_Last xday_Last, Jday_Week xday_Week] [] (Jrule_Day (Yrule_Day xday_Number xrule_Right xday_Leap xday_Last xday_Week)) := fun x y K => by kernel_rfl
theorem Irule_Day_ok : InstOk Tryz.prog G.1 Irule_Day := iok (gives := gives) [] (okCons Iday_Number_ok (okCons Irule_Right_ok (okCons Iday_Leap_ok (okCons Iday_Last_ok (okCons Iday_Week_ok okNil))))) 83 follows Tryz.func268 (by kernel_rfl) (fun x => by kernel_rfl) (Erule_Day Xday_Number Xrule_Right Xday_Leap Xday_Last Xday_Week)
abbrev Trule_At : Type := Q57 → Int → (Int → Bool → Prop) → Prop
def Yrule_At (xrule_Day : Trule_Day) (a0 : Q57) (a1 : Int) (K : Int → Bool → Prop) : Prop :=
 xrule_Day a0 a1 (fun r2 r3 =>
 (if (!r3) then
 K 0 false
 else
 (lt (w64 (w64 (r2 * 86400) + a0.2.2.2.2.1)) fun v4 =>
 K v4 true)))
def Xrule_At : Trule_At := Yrule_At Xrule_Day
def Jrule_At (X : Trule_At) : Inst := mkI 234 pL89 .nil pL25 .nil X
def Irule_At : Inst := Jrule_At Xrule_At
theorem Erule_At (xrule_Day : Trule_Day) : EqF Tryz.prog 21 gives Tryz.f234 [Jrule_Day xrule_Day] [] (Jrule_At (Yrule_At xrule_Day)) := fun x y K => by kernel_rfl
theorem Irule_At_ok : InstOk Tryz.prog G.1 Irule_At := iok (gives := gives) [] (okCons Irule_Day_ok okNil) 21 follows Tryz.func234 (by kernel_rfl) (fun x => by kernel_rfl) (Erule_At Xrule_Day)
abbrev Tfoot_Span : Type := Q59 → Int → (Int → Int → Bool → Prop) → Prop
def Yfoot_Span (xfoot_Right : Tfoot_Right) (xrule_At : Trule_At) (a0 : Q59) (a1 : Int) (K : Int → Int → Bool → Prop) : Prop :=
 (if (!a0.2.2.2.2.2.2.1) then
 K 0 0 false
 else
 xfoot_Right a0 (fun r2 =>
 (if (!r2) then
 K 0 0 false
 else
 xrule_At (a0.2.2.2.2.2.2.2.1, a0.2.2.2.2.2.2.2.2.1, a0.2.2.2.2.2.2.2.2.2.1, a0.2.2.2.2.2.2.2.2.2.2.1, a0.2.2.2.2.2.2.2.2.2.2.2.1, ()) a1 (fun r3 r4 =>
 (if (!r4) then
 K 0 0 false
 else
 xrule_At a0.2.2.2.2.2.2.2.2.2.2.2.2 a1 (fun r5 r6 =>
 K (w64 (r3 - a0.1)) (w64 (r5 - a0.2.2.2.1)) true))))))
def Xfoot_Span : Tfoot_Span := Yfoot_Span Xfoot_Right Xrule_At
def Jfoot_Span (X : Tfoot_Span) : Inst := mkI 185 pL90 .nil pL66 .nil X
def Ifoot_Span : Inst := Jfoot_Span Xfoot_Span
theorem Efoot_Span (xfoot_Right : Tfoot_Right) (xrule_At : Trule_At) : EqF Tryz.prog 41 gives Tryz.f185 [Jfoot_Right xfoot_Right, Jrule_At xrule_At] [] (Jfoot_Span (Yfoot_Span xfoot_Right xrule_At)) := fun x y K => by kernel_rfl
theorem Ifoot_Span_ok : InstOk Tryz.prog G.1 Ifoot_Span := iok (gives := gives) [] (okCons Ifoot_Right_ok (okCons Irule_At_ok okNil)) 41 follows Tryz.func185 (by kernel_rfl) (fun x => by kernel_rfl) (Efoot_Span Xfoot_Right Xrule_At)
abbrev Tfoot_Lookup : Type := Q59 → Int → (Q32 → Prop) → Prop
def Yfoot_Lookup (xnum_Add : Tnum_Add) (xfoot_year : Tfoot_year) (xfoot_Span : Tfoot_Span) (a0 : Q59) (a1 : Int) (K : Q32 → Prop) : Prop :=
 xnum_Add a1 a0.1 (fun r2 r3 =>
 xfoot_year r2 (fun r4 r5 =>
 xfoot_Span a0 r4 (fun r6 r7 r8 =>
 (if (!r3) then
 K (a0.1, a0.2.1, a0.2.2.1, ())
 else
 (if (!r5) then
 K (a0.1, a0.2.1, a0.2.2.1, ())
 else
 (if (!r8) then
 K (a0.1, a0.2.1, a0.2.2.1, ())
 else
 (if decide (a1 ≥ r6) then
 (if decide (a1 < r7) then
 K (a0.2.2.2.1, a0.2.2.2.2.1, a0.2.2.2.2.2.1, ())
 else
 (if decide (r6 ≥ r7) then
 (if decide (a1 ≥ r6) then
 K (a0.2.2.2.1, a0.2.2.2.2.1, a0.2.2.2.2.2.1, ())
 else
 (if decide (a1 < r7) then
 K (a0.2.2.2.1, a0.2.2.2.2.1, a0.2.2.2.2.2.1, ())
 else
 K (a0.1, a0.2.1, a0.2.2.1, ())))
 else
 K (a0.1, a0.2.1, a0.2.2.1, ())))
 else
 (if decide (r6 ≥ r7) then
 (if decide (a1 ≥ r6) then
 K (a0.2.2.2.1, a0.2.2.2.2.1, a0.2.2.2.2.2.1, ())
 else
 (if decide (a1 < r7) then
 K (a0.2.2.2.1, a0.2.2.2.2.1, a0.2.2.2.2.2.1, ())
 else
 K (a0.1, a0.2.1, a0.2.2.1, ())))
 else
 K (a0.1, a0.2.1, a0.2.2.1, ())))))))))
def Xfoot_Lookup : Tfoot_Lookup := Yfoot_Lookup Xnum_Add Xfoot_year Xfoot_Span
def Jfoot_Lookup (X : Tfoot_Lookup) : Inst := mkI 107 pL90 .nil pL91 .nil X
def Ifoot_Lookup : Inst := Jfoot_Lookup Xfoot_Lookup
theorem Efoot_Lookup (xnum_Add : Tnum_Add) (xfoot_year : Tfoot_year) (xfoot_Span : Tfoot_Span) : EqF Tryz.prog 71 gives Tryz.f107 [Jnum_Add xnum_Add, Jfoot_year xfoot_year, Jfoot_Span xfoot_Span] [] (Jfoot_Lookup (Yfoot_Lookup xnum_Add xfoot_year xfoot_Span)) := fun x y K => by kernel_rfl
theorem Ifoot_Lookup_ok : InstOk Tryz.prog G.1 Ifoot_Lookup := iok (gives := gives) [] (okCons Inum_Add_ok (okCons Ifoot_year_ok (okCons Ifoot_Span_ok okNil))) 71 follows Tryz.func107 (by kernel_rfl) (fun x => by kernel_rfl) (Efoot_Lookup Xnum_Add Xfoot_year Xfoot_Span)
abbrev Tzone_Lookup : Type := Q15 → Int → (Q32 → Prop) → Prop
def Yzone_Lookup (xzone_Index : Tzone_Index) (xfoot_Parse : Tfoot_Parse) (xzone_Posix : Tzone_Posix) (xfoot_Lookup : Tfoot_Lookup) (a0 : Q15) (a1 : Int) (K : Q32 → Prop) : Prop :=
 xzone_Index a0 a1 (fun r2 =>
 (if (!ByteArray.toList a0.2.2.2.1 == ByteArray.toList (ByteArray.mk #[])) then
 (if (w64 (r2 + 1) == (↑(List.length a0.2.1) : Int)) then
 xfoot_Parse a0.2.2.2.1 (fun r3 r4 =>
 xzone_Posix a0 a1 (fun r5 =>
 xfoot_Lookup r3 r5 (fun r6 =>
 K r6)))
 else
 (if decide (r2 < 0) then
 (if (0 :Int) ≤ 0 ∧ 0 < (↑(List.length a0.1) : Int) then
 (Eng.asInt IntKind.i64 (Eng.getC a0.1 (0 : Nat) (0 : Nat)) False fun n7 =>
 (Eng.asBool (Eng.getC a0.1 (0 : Nat) (1 : Nat)) False fun b8 =>
 (Eng.asStr (Eng.getC a0.1 (0 : Nat) (2 : Nat)) False fun t9 =>
 K (n7, b8, t9, ()))))
 else
 False)
 else
 (if 0 ≤ r2 ∧ r2 < (↑(List.length a0.2.1) : Int) then
 (Eng.asInt IntKind.i64 (Eng.getC a0.2.1 (Int.toNat r2) (1 : Nat)) False fun n10 =>
 (if 0 ≤ n10 ∧ n10 < (↑(List.length a0.1) : Int) then
 (Eng.asInt IntKind.i64 (Eng.getC a0.1 (Int.toNat n10) (0 : Nat)) False fun n11 =>
 (Eng.asBool (Eng.getC a0.1 (Int.toNat n10) (1 : Nat)) False fun b12 =>
 (Eng.asStr (Eng.getC a0.1 (Int.toNat n10) (2 : Nat)) False fun t13 =>
 K (n11, b12, t13, ()))))
 else
 False))
 else
 False)))
 else
 (if decide (r2 < 0) then
 (if (0 :Int) ≤ 0 ∧ 0 < (↑(List.length a0.1) : Int) then
 (Eng.asInt IntKind.i64 (Eng.getC a0.1 (0 : Nat) (0 : Nat)) False fun n14 =>
 (Eng.asBool (Eng.getC a0.1 (0 : Nat) (1 : Nat)) False fun b15 =>
 (Eng.asStr (Eng.getC a0.1 (0 : Nat) (2 : Nat)) False fun t16 =>
 K (n14, b15, t16, ()))))
 else
 False)
 else
 (if 0 ≤ r2 ∧ r2 < (↑(List.length a0.2.1) : Int) then
 (Eng.asInt IntKind.i64 (Eng.getC a0.2.1 (Int.toNat r2) (1 : Nat)) False fun n17 =>
 (if 0 ≤ n17 ∧ n17 < (↑(List.length a0.1) : Int) then
 (Eng.asInt IntKind.i64 (Eng.getC a0.1 (Int.toNat n17) (0 : Nat)) False fun n18 =>
 (Eng.asBool (Eng.getC a0.1 (Int.toNat n17) (1 : Nat)) False fun b19 =>
 (Eng.asStr (Eng.getC a0.1 (Int.toNat n17) (2 : Nat)) False fun t20 =>
 K (n18, b19, t20, ()))))
 else
 False))
 else
 False))))
def Xzone_Lookup : Tzone_Lookup := Yzone_Lookup Xzone_Index Xfoot_Parse Xzone_Posix Xfoot_Lookup
def Jzone_Lookup (X : Tzone_Lookup) : Inst := mkI 40 pL81 .nil pL91 .nil X
def Izone_Lookup : Inst := Jzone_Lookup Xzone_Lookup
theorem Ezone_Lookup (xzone_Index : Tzone_Index) (xfoot_Parse : Tfoot_Parse) (xzone_Posix : Tzone_Posix) (xfoot_Lookup : Tfoot_Lookup) : EqF Tryz.prog 51 gives Tryz.f40 [Jzone_Index xzone_Index, Jfoot_Parse xfoot_Parse, Jzone_Posix xzone_Posix, Jfoot_Lookup xfoot_Lookup] [] (Jzone_Lookup (Yzone_Lookup xzone_Index xfoot_Parse xzone_Posix xfoot_Lookup)) := fun x y K => by kernel_rfl
theorem Izone_Lookup_ok : InstOk Tryz.prog G.1 Izone_Lookup := iok (gives := gives) [] (okCons Izone_Index_ok (okCons Ifoot_Parse_ok (okCons Izone_Posix_ok (okCons Ifoot_Lookup_ok okNil)))) 51 follows Tryz.func40 (by kernel_rfl) (fun x => by kernel_rfl) (Ezone_Lookup Xzone_Index Xfoot_Parse Xzone_Posix Xfoot_Lookup)
abbrev Tright_Instant : Type := Q15 → Q68 → (Int → Prop) → Prop
def Yright_Instant (xzone_Lookup : Tzone_Lookup) (a0 : Q15) (a1 : Q68) (K : Int → Prop) : Prop :=
 (lt (w64 (w64 (a1.1 + 1) * 86400)) fun v2 =>
 (if (!a1.2.2.1) then
 K v2
 else
 xzone_Lookup a0 (w64 (v2 - 1)) (fun r3 =>
 K (w64 (v2 - r3.1)))))
def Xright_Instant : Tright_Instant := Yright_Instant Xzone_Lookup
def Jright_Instant (X : Tright_Instant) : Inst := mkI 36 pL92 .nil pL6 .nil X
def Iright_Instant : Inst := Jright_Instant Xright_Instant
theorem Eright_Instant (xzone_Lookup : Tzone_Lookup) : EqF Tryz.prog 21 gives Tryz.f36 [Jzone_Lookup xzone_Lookup] [] (Jright_Instant (Yright_Instant xzone_Lookup)) := fun x y K => by kernel_rfl
theorem Iright_Instant_ok : InstOk Tryz.prog G.1 Iright_Instant := iok (gives := gives) [] (okCons Izone_Lookup_ok okNil) 21 follows Tryz.func36 (by kernel_rfl) (fun x => by kernel_rfl) (Eright_Instant Xzone_Lookup)
abbrev Tright_Records : Type := Q15 → Q70 → (Int → (List Eng.V) → Bool → Bool → Prop) → Prop
def Lright_Records_0 (xright_Instant : Tright_Instant) (xrecord_Check : Trecord_Check) (K : Int → (List Eng.V) → Bool → Bool → Prop) : (Q93 → Prop) → Q93 → Prop := fun k2 x3 =>
 (if decide (x3.1.2.2.2.2.2.2.2.2.1 < x3.1.2.2.2.2.2.2.2.1) then
 (if 0 ≤ x3.1.2.2.2.2.2.2.2.2.1 ∧ x3.1.2.2.2.2.2.2.2.2.1 < (↑(List.length x3.1.2.2.2.2.2.2.1) : Int) then
 (Eng.asInt IntKind.i64 (Eng.getC x3.1.2.2.2.2.2.2.1 (Int.toNat x3.1.2.2.2.2.2.2.2.2.1) (0 : Nat)) False fun n4 =>
 (Eng.asInt IntKind.i64 (Eng.getC x3.1.2.2.2.2.2.2.1 (Int.toNat x3.1.2.2.2.2.2.2.2.2.1) (1 : Nat)) False fun n5 =>
 (Eng.asBool (Eng.getC x3.1.2.2.2.2.2.2.1 (Int.toNat x3.1.2.2.2.2.2.2.2.2.1) (2 : Nat)) False fun b6 =>
 xright_Instant x3.2.1 (n4, n5, b6, ()) (fun r7 =>
 (lt (w64 (w64 (r7 + x3.1.2.2.2.2.2.1) + if 0 < n5 then 0 else n5)) fun v8 =>
 (if Eng.roomOk (List.length x3.2.2.2.1 + List.length [Eng.V.agg [Eng.V.c (Value.int IntKind.i64 v8), Eng.V.c (Value.int IntKind.i64 (w64 (x3.1.2.2.2.2.2.1 + n5)))]]) (16 : Nat) then
 (lt (x3.2.2.2.1 ++ [Eng.V.agg [Eng.V.c (Value.int IntKind.i64 v8), Eng.V.c (Value.int IntKind.i64 (w64 (x3.1.2.2.2.2.2.1 + n5)))]]) fun v9 =>
 k2 (((), (), (), x3.1.2.2.2.1, (), w64 (x3.1.2.2.2.2.2.1 + n5), x3.1.2.2.2.2.2.2.1, x3.1.2.2.2.2.2.2.2.1, w64 (x3.1.2.2.2.2.2.2.2.2.1 + 1), ()), x3.2.1, x3.2.2.1, v9, ()))
 else
 False))))))
 else
 False)
 else
 (if x3.2.2.1.2.1 then
 (if Eng.roomOk (List.length x3.2.2.2.1 + List.length [Eng.V.agg [Eng.V.c (Value.int IntKind.i64 (w64 (x3.2.2.1.2.2.1 + x3.1.2.2.2.2.2.1))), Eng.V.c (Value.int IntKind.i64 x3.1.2.2.2.2.2.1)]]) (16 : Nat) then
 (lt (x3.2.2.2.1 ++ [Eng.V.agg [Eng.V.c (Value.int IntKind.i64 (w64 (x3.2.2.1.2.2.1 + x3.1.2.2.2.2.2.1))), Eng.V.c (Value.int IntKind.i64 x3.1.2.2.2.2.2.1)]]) fun v10 =>
 xrecord_Check v10 (fun r11 r12 =>
 (if (r12 != 0) then
 K r12 [] true true
 else
 K 0 v10 true false)))
 else
 False)
 else
 xrecord_Check x3.2.2.2.1 (fun r13 r14 =>
 (if (r14 != 0) then
 K r14 [] true true
 else
 K 0 x3.2.2.2.1 true false))))
def Lright_Records_0p : Lp := ⟨114940, [.trim 114940, .fat 6 2 1024, .trim 114940], pT94, pH95, 0⟩
def Yright_Records (xright_Instant : Tright_Instant) (xrecord_Check : Trecord_Check) (a0 : Q15) (a1 : Q70) (K : Int → (List Eng.V) → Bool → Bool → Prop) : Prop :=
 lp (Lright_Records_0 xright_Instant xrecord_Check K) (((), (), (), 0, (), 0, a1.1, (↑(List.length a1.1) : Int), 0, ()), a0, a1, [], ())
def Xright_Records : Tright_Records := Yright_Records Xright_Instant Xrecord_Check
def Jright_Records (X : Tright_Records) : Inst := mkI 32 pL96 .nil pL97 pH31 X
def Iright_Records : Inst := Jright_Records Xright_Records
theorem Eright_Records (xright_Instant : Tright_Instant) (xrecord_Check : Trecord_Check) : EqF Tryz.prog 60 gives Tryz.f32 [Jright_Instant xright_Instant, Jrecord_Check xrecord_Check] [Lright_Records_0p] (Jright_Records (Yright_Records xright_Instant xrecord_Check)) := fun x y K => by kernel_rfl
theorem Iright_Records_ok : InstOk Tryz.prog G.1 Iright_Records := iok (gives := gives) [Lright_Records_0p] (okCons Iright_Instant_ok (okCons Irecord_Check_ok okNil)) 60 follows Tryz.func32 (by kernel_rfl) (fun x => by kernel_rfl) (Eright_Records Xright_Instant Xrecord_Check)
abbrev Tslices_Clone___api_Type_api_Type_ : Type := (List Eng.V) → ((List Eng.V) → Bool → Bool → Prop) → Prop
def Yslices_Clone___api_Type_api_Type_ (a0 : (List Eng.V)) (K : (List Eng.V) → Bool → Bool → Prop) : Prop :=
 (if List.length a0 = (0 : Nat) then
 (
 K [] true true
 ∧
 (if Eng.roomOk ((0 : Nat) + List.length a0) (32 : Nat) then
 K ([] ++ a0) true false
 else
 False))
 else
 (if Eng.roomOk ((0 : Nat) + List.length a0) (32 : Nat) then
 K ([] ++ a0) true false
 else
 False))
def Xslices_Clone___api_Type_api_Type_ : Tslices_Clone___api_Type_api_Type_ := Yslices_Clone___api_Type_api_Type_
def Jslices_Clone___api_Type_api_Type_ (X : Tslices_Clone___api_Type_api_Type_) : Inst := mkI 153 pL98 .nil pL30 pH99 X
def Islices_Clone___api_Type_api_Type_ : Inst := Jslices_Clone___api_Type_api_Type_ Xslices_Clone___api_Type_api_Type_
theorem Eslices_Clone___api_Type_api_Type_ : EqF Tryz.prog 8 gives Tryz.f153 [] [] (Jslices_Clone___api_Type_api_Type_ (Yslices_Clone___api_Type_api_Type_)) := fun x y K => by kernel_rfl
theorem Islices_Clone___api_Type_api_Type__ok : InstOk Tryz.prog G.1 Islices_Clone___api_Type_api_Type_ := iok (gives := gives) [] okNil 8 follows Tryz.func153 (by kernel_rfl) (fun x => by kernel_rfl) (Eslices_Clone___api_Type_api_Type_)
abbrev Tslices_Clone___api_Trans_api_Trans_ : Type := (List Eng.V) → ((List Eng.V) → Bool → Bool → Prop) → Prop
def Yslices_Clone___api_Trans_api_Trans_ (a0 : (List Eng.V)) (K : (List Eng.V) → Bool → Bool → Prop) : Prop :=
 (if List.length a0 = (0 : Nat) then
 (
 K [] true true
 ∧
 (if Eng.roomOk ((0 : Nat) + List.length a0) (16 : Nat) then
 K ([] ++ a0) true false
 else
 False))
 else
 (if Eng.roomOk ((0 : Nat) + List.length a0) (16 : Nat) then
 K ([] ++ a0) true false
 else
 False))
def Xslices_Clone___api_Trans_api_Trans_ : Tslices_Clone___api_Trans_api_Trans_ := Yslices_Clone___api_Trans_api_Trans_
def Jslices_Clone___api_Trans_api_Trans_ (X : Tslices_Clone___api_Trans_api_Trans_) : Inst := mkI 154 pL29 .nil pL30 pH31 X
def Islices_Clone___api_Trans_api_Trans_ : Inst := Jslices_Clone___api_Trans_api_Trans_ Xslices_Clone___api_Trans_api_Trans_
theorem Eslices_Clone___api_Trans_api_Trans_ : EqF Tryz.prog 8 gives Tryz.f154 [] [] (Jslices_Clone___api_Trans_api_Trans_ (Yslices_Clone___api_Trans_api_Trans_)) := fun x y K => by kernel_rfl
theorem Islices_Clone___api_Trans_api_Trans__ok : InstOk Tryz.prog G.1 Islices_Clone___api_Trans_api_Trans_ := iok (gives := gives) [] okNil 8 follows Tryz.func154 (by kernel_rfl) (fun x => by kernel_rfl) (Eslices_Clone___api_Trans_api_Trans_)
abbrev Tslices_Clone___api_Corr_api_Corr_ : Type := (List Eng.V) → ((List Eng.V) → Bool → Bool → Prop) → Prop
def Yslices_Clone___api_Corr_api_Corr_ (a0 : (List Eng.V)) (K : (List Eng.V) → Bool → Bool → Prop) : Prop :=
 (if List.length a0 = (0 : Nat) then
 (
 K [] true true
 ∧
 (if Eng.roomOk ((0 : Nat) + List.length a0) (16 : Nat) then
 K ([] ++ a0) true false
 else
 False))
 else
 (if Eng.roomOk ((0 : Nat) + List.length a0) (16 : Nat) then
 K ([] ++ a0) true false
 else
 False))
def Xslices_Clone___api_Corr_api_Corr_ : Tslices_Clone___api_Corr_api_Corr_ := Yslices_Clone___api_Corr_api_Corr_
def Jslices_Clone___api_Corr_api_Corr_ (X : Tslices_Clone___api_Corr_api_Corr_) : Inst := mkI 155 pL29 .nil pL30 pH31 X
def Islices_Clone___api_Corr_api_Corr_ : Inst := Jslices_Clone___api_Corr_api_Corr_ Xslices_Clone___api_Corr_api_Corr_
theorem Eslices_Clone___api_Corr_api_Corr_ : EqF Tryz.prog 8 gives Tryz.f155 [] [] (Jslices_Clone___api_Corr_api_Corr_ (Yslices_Clone___api_Corr_api_Corr_)) := fun x y K => by kernel_rfl
theorem Islices_Clone___api_Corr_api_Corr__ok : InstOk Tryz.prog G.1 Islices_Clone___api_Corr_api_Corr_ := iok (gives := gives) [] okNil 8 follows Tryz.func155 (by kernel_rfl) (fun x => by kernel_rfl) (Eslices_Clone___api_Corr_api_Corr_)
abbrev Tzone_Copy : Type := Q15 → (Q100 → (List Eng.V) → Bool → Bool → (List Eng.V) → Bool → Bool → (List Eng.V) → Bool → Bool → Prop) → Prop
def Yzone_Copy (xslices_Clone___api_Type_api_Type_ : Tslices_Clone___api_Type_api_Type_) (xslices_Clone___api_Trans_api_Trans_ : Tslices_Clone___api_Trans_api_Trans_) (xslices_Clone___api_Corr_api_Corr_ : Tslices_Clone___api_Corr_api_Corr_) (a0 : Q15) (K : Q100 → (List Eng.V) → Bool → Bool → (List Eng.V) → Bool → Bool → (List Eng.V) → Bool → Bool → Prop) : Prop :=
 xslices_Clone___api_Type_api_Type_ a0.1 (fun r1 r2 r3 =>
 xslices_Clone___api_Trans_api_Trans_ a0.2.1 (fun r4 r5 r6 =>
 xslices_Clone___api_Corr_api_Corr_ a0.2.2.1 (fun r7 r8 r9 =>
 K ((), (), (), a0.2.2.2) r1 r2 r3 r4 r5 r6 r7 r8 r9)))
def Xzone_Copy : Tzone_Copy := Yzone_Copy Xslices_Clone___api_Type_api_Type_ Xslices_Clone___api_Trans_api_Trans_ Xslices_Clone___api_Corr_api_Corr_
def Jzone_Copy (X : Tzone_Copy) : Inst := mkI 72 pL19 .nil pL101 pH102 X
def Izone_Copy : Inst := Jzone_Copy Xzone_Copy
theorem Ezone_Copy (xslices_Clone___api_Type_api_Type_ : Tslices_Clone___api_Type_api_Type_) (xslices_Clone___api_Trans_api_Trans_ : Tslices_Clone___api_Trans_api_Trans_) (xslices_Clone___api_Corr_api_Corr_ : Tslices_Clone___api_Corr_api_Corr_) : EqF Tryz.prog 16 gives Tryz.f72 [Jslices_Clone___api_Type_api_Type_ xslices_Clone___api_Type_api_Type_, Jslices_Clone___api_Trans_api_Trans_ xslices_Clone___api_Trans_api_Trans_, Jslices_Clone___api_Corr_api_Corr_ xslices_Clone___api_Corr_api_Corr_] [] (Jzone_Copy (Yzone_Copy xslices_Clone___api_Type_api_Type_ xslices_Clone___api_Trans_api_Trans_ xslices_Clone___api_Corr_api_Corr_)) := fun x y K => by kernel_rfl
theorem Izone_Copy_ok : InstOk Tryz.prog G.1 Izone_Copy := iok (gives := gives) [] (okCons Islices_Clone___api_Type_api_Type__ok (okCons Islices_Clone___api_Trans_api_Trans__ok (okCons Islices_Clone___api_Corr_api_Corr__ok okNil))) 16 follows Tryz.func72 (by kernel_rfl) (fun x => by kernel_rfl) (Ezone_Copy Xslices_Clone___api_Type_api_Type_ Xslices_Clone___api_Trans_api_Trans_ Xslices_Clone___api_Corr_api_Corr_)
abbrev Tright_Shift : Type := Q15 → Q70 → Int → (Int → Bool → Prop) → Prop
def Lright_Shift_0 (xright_Instant : Tright_Instant) (xnum_Add : Tnum_Add) (K : Int → Bool → Prop) : (Q103 → Prop) → Q103 → Prop := fun k3 x4 =>
 (if decide (x4.1.2.2.2.2.2.2.2.1 < x4.1.2.2.2.2.2.2.1) then
 (if 0 ≤ x4.1.2.2.2.2.2.2.2.1 ∧ x4.1.2.2.2.2.2.2.2.1 < (↑(List.length x4.1.2.2.2.2.2.1) : Int) then
 (Eng.asInt IntKind.i64 (Eng.getC x4.1.2.2.2.2.2.1 (Int.toNat x4.1.2.2.2.2.2.2.2.1) (0 : Nat)) False fun n5 =>
 (Eng.asInt IntKind.i64 (Eng.getC x4.1.2.2.2.2.2.1 (Int.toNat x4.1.2.2.2.2.2.2.2.1) (1 : Nat)) False fun n6 =>
 (Eng.asBool (Eng.getC x4.1.2.2.2.2.2.1 (Int.toNat x4.1.2.2.2.2.2.2.2.1) (2 : Nat)) False fun b7 =>
 xright_Instant x4.2.1 (n5, n6, b7, ()) (fun r8 =>
 (if decide (r8 ≤ x4.1.1) then
 k3 ((x4.1.1, (), x4.1.2.2.1, x4.1.2.2.2.1, w64 (x4.1.2.2.2.2.1 + n6), x4.1.2.2.2.2.2.1, x4.1.2.2.2.2.2.2.1, w64 (x4.1.2.2.2.2.2.2.2.1 + 1), ()), x4.2)
 else
 k3 ((x4.1.1, (), x4.1.2.2.1, x4.1.2.2.2.1, x4.1.2.2.2.2.1, x4.1.2.2.2.2.2.1, x4.1.2.2.2.2.2.2.1, w64 (x4.1.2.2.2.2.2.2.2.1 + 1), ()), x4.2))))))
 else
 False)
 else
 xnum_Add x4.1.1 x4.1.2.2.2.2.1 (fun r9 r10 =>
 K r9 r10))
def Lright_Shift_0p : Lp := ⟨29132, [.trim 29132], pT104, pH105, 0⟩
def Yright_Shift (xright_Instant : Tright_Instant) (xnum_Add : Tnum_Add) (a0 : Q15) (a1 : Q70) (a2 : Int) (K : Int → Bool → Prop) : Prop :=
 lp (Lright_Shift_0 xright_Instant xnum_Add K) ((a2, (), 0, false, 0, a1.1, (↑(List.length a1.1) : Int), 0, ()), a0, ())
def Xright_Shift : Tright_Shift := Yright_Shift Xright_Instant Xnum_Add
def Jright_Shift (X : Tright_Shift) : Inst := mkI 34 pL106 .nil pL25 .nil X
def Iright_Shift : Inst := Jright_Shift Xright_Shift
theorem Eright_Shift (xright_Instant : Tright_Instant) (xnum_Add : Tnum_Add) : EqF Tryz.prog 33 gives Tryz.f34 [Jright_Instant xright_Instant, Jnum_Add xnum_Add] [Lright_Shift_0p] (Jright_Shift (Yright_Shift xright_Instant xnum_Add)) := fun x y K => by kernel_rfl
theorem Iright_Shift_ok : InstOk Tryz.prog G.1 Iright_Shift := iok (gives := gives) [Lright_Shift_0p] (okCons Iright_Instant_ok (okCons Inum_Add_ok okNil)) 33 follows Tryz.func34 (by kernel_rfl) (fun x => by kernel_rfl) (Eright_Shift Xright_Instant Xnum_Add)
abbrev Tright_Compile_1 : Type := Int → (List Eng.V) → (List Eng.V) → (List Eng.V) → ByteArray → Int → (List Eng.V) → Bool → Int → (Int → Bool → ByteArray → Int → Bool → Int → (List Eng.V) → Bool → Bool → (List Eng.V) → Bool → Bool → (List Eng.V) → Bool → Bool → (List Eng.V) → Bool → Bool → Prop) → Prop
def Yright_Compile_1 (xright_Shift : Tright_Shift) (a0 : Int) (a1 : (List Eng.V)) (a2 : (List Eng.V)) (a3 : (List Eng.V)) (a4 : ByteArray) (a5 : Int) (a6 : (List Eng.V)) (a7 : Bool) (a8 : Int) (K : Int → Bool → ByteArray → Int → Bool → Int → (List Eng.V) → Bool → Bool → (List Eng.V) → Bool → Bool → (List Eng.V) → Bool → Bool → (List Eng.V) → Bool → Bool → Prop) : Prop :=
 xright_Shift (a1, a2, a3, a4, a5, ()) (a6, a7, a8, ()) a0 (fun r9 r10 =>
 K r9 r10 a4 a5 a7 a8 a1 false true a2 false true a3 false true a6 false true)
def Xright_Compile_1 : Tright_Compile_1 := Yright_Compile_1 Xright_Shift
def Jright_Compile_1 (X : Tright_Compile_1) : Inst := mkI 81 pL75 pH107 pL25 pH108 X
def Iright_Compile_1 : Inst := Jright_Compile_1 Xright_Compile_1
theorem Eright_Compile_1 (xright_Shift : Tright_Shift) : EqF Tryz.prog 12 gives Tryz.f81 [Jright_Shift xright_Shift] [] (Jright_Compile_1 (Yright_Compile_1 xright_Shift)) := fun x y K => by kernel_rfl
theorem Iright_Compile_1_ok : InstOk Tryz.prog G.1 Iright_Compile_1 := iok (gives := gives) [] (okCons Iright_Shift_ok okNil) 12 follows Tryz.func81 (by kernel_rfl) (fun x => by kernel_rfl) (Eright_Compile_1 Xright_Shift)
abbrev Tright_moved : Type := Q15 → (List Eng.V) → (List Eng.V) → (List Eng.V) → ByteArray → Int → (List Eng.V) → Bool → Int → (Q100 → Int → ByteArray → Int → Bool → Int → (List Eng.V) → Bool → Bool → (List Eng.V) → Bool → Bool → (List Eng.V) → Bool → Bool → (List Eng.V) → Bool → Bool → (List Eng.V) → Bool → Bool → (List Eng.V) → Bool → Bool → (List Eng.V) → Bool → Bool → Prop) → Prop
def Lright_moved_1 (K : Q100 → Int → ByteArray → Int → Bool → Int → (List Eng.V) → Bool → Bool → (List Eng.V) → Bool → Bool → (List Eng.V) → Bool → Bool → (List Eng.V) → Bool → Bool → (List Eng.V) → Bool → Bool → (List Eng.V) → Bool → Bool → (List Eng.V) → Bool → Bool → Prop) (a1 : (List Eng.V)) (a2 : (List Eng.V)) (a3 : (List Eng.V)) (a4 : ByteArray) (a5 : Int) (a6 : (List Eng.V)) (a7 : Bool) (a8 : Int) (k19 : Q109 → Prop) : (Q110 → Prop) → Q110 → Prop := fun k41 x42 =>
 (if decide (x42.1.2.2.2.2.1 < x42.1.2.2.2.1) then
 (if decide (x42.1.2.2.2.2.1 > 0) then
 (if 0 ≤ x42.1.2.2.2.2.1 ∧ x42.1.2.2.2.2.1 < (↑(List.length x42.2.2.2.2.2.2.1.1) : Int) then
 (Eng.asInt IntKind.i64 (Eng.getC x42.2.2.2.2.2.2.1.1 (Int.toNat x42.1.2.2.2.2.1) (0 : Nat)) False fun n43 =>
 (if 0 ≤ w64 (x42.1.2.2.2.2.1 - 1) ∧ w64 (x42.1.2.2.2.2.1 - 1) < (↑(List.length x42.2.2.2.2.2.2.1.1) : Int) then
 (Eng.asInt IntKind.i64 (Eng.getC x42.2.2.2.2.2.2.1.1 (Int.toNat (w64 (x42.1.2.2.2.2.1 - 1))) (0 : Nat)) False fun n44 =>
 (if decide (n43 ≤ n44) then
 K ((), (), (), ByteArray.mk #[], 0, ()) 4 x42.2.1.2.2.2.1 x42.2.1.2.2.2.2.1 x42.2.2.1.2.1 x42.2.2.1.2.2.1 [] true true [] true true [] true true x42.2.1.1 false true x42.2.1.2.1 false true x42.2.1.2.2.1 false true x42.2.2.1.1 false true
 else
 k41 (((), (), x42.1.2.2.1, x42.1.2.2.2.1, w64 (x42.1.2.2.2.2.1 + 1), ()), x42.2.1, x42.2.2.1, ((), (), (), x42.2.2.2.1.2.2.2), ((), (), (), x42.2.2.2.2.1.2.2.2), x42.2.2.2.2.2)))
 else
 False))
 else
 False)
 else
 k41 (((), (), x42.1.2.2.1, x42.1.2.2.2.1, w64 (x42.1.2.2.2.2.1 + 1), ()), x42.2.1, x42.2.2.1, ((), (), (), x42.2.2.2.1.2.2.2), ((), (), (), x42.2.2.2.2.1.2.2.2), x42.2.2.2.2.2))
 else
 K ((), (), (), x42.2.2.2.1.2.2.2) 0 x42.2.1.2.2.2.1 x42.2.1.2.2.2.2.1 x42.2.2.1.2.1 x42.2.2.1.2.2.1 x42.2.2.2.2.2.1.1 x42.2.2.2.2.2.1.2.1 x42.2.2.2.2.2.1.2.2 x42.2.2.2.2.2.2.1.1 x42.2.2.2.2.2.2.1.2.1 x42.2.2.2.2.2.2.1.2.2 x42.2.2.2.2.2.2.2.1.1 x42.2.2.2.2.2.2.2.1.2.1 x42.2.2.2.2.2.2.2.1.2.2 x42.2.1.1 false true x42.2.1.2.1 false true x42.2.1.2.2.1 false true x42.2.2.1.1 false true)
def Lright_moved_1p : Lp := ⟨3298534883380, [.trim 3298534883380], pT111, pH112, 0⟩
def Lright_moved_0 (xright_Compile_1 : Tright_Compile_1) (K : Q100 → Int → ByteArray → Int → Bool → Int → (List Eng.V) → Bool → Bool → (List Eng.V) → Bool → Bool → (List Eng.V) → Bool → Bool → (List Eng.V) → Bool → Bool → (List Eng.V) → Bool → Bool → (List Eng.V) → Bool → Bool → (List Eng.V) → Bool → Bool → Prop) (a1 : (List Eng.V)) (a2 : (List Eng.V)) (a3 : (List Eng.V)) (a4 : ByteArray) (a5 : Int) (a6 : (List Eng.V)) (a7 : Bool) (a8 : Int) : (Q109 → Prop) → Q109 → Prop := fun k19 x20 =>
 (if decide (x20.1.2.2.2.2.2.2.1 < x20.1.2.2.2.2.2.1) then
 (if 0 ≤ x20.1.2.2.2.2.2.2.1 ∧ x20.1.2.2.2.2.2.2.1 < (↑(List.length x20.2.2.2.2.2.2.1.1) : Int) then
 (Eng.asInt IntKind.i64 (Eng.getC x20.2.2.2.2.2.2.1.1 (Int.toNat x20.1.2.2.2.2.2.2.1) (0 : Nat)) False fun n21 =>
 (Eng.asInt IntKind.i64 (Eng.getC x20.2.2.2.2.2.2.1.1 (Int.toNat x20.1.2.2.2.2.2.2.1) (1 : Nat)) False fun n22 =>
 xright_Compile_1 n21 x20.2.1.1 x20.2.1.2.1 x20.2.1.2.2.1 x20.2.1.2.2.2.1 x20.2.1.2.2.2.2.1 x20.2.2.1.1 x20.2.2.1.2.1 x20.2.2.1.2.2.1 (fun r23 r24 r25 r26 r27 r28 r29 r30 r31 r32 r33 r34 r35 r36 r37 r38 r39 r40 =>
 (if (!r24) then
 K ((), (), (), ByteArray.mk #[], 0, ()) 8 r25 r26 r27 r28 [] true true [] true true [] true true r29 r30 r31 r32 r33 r34 r35 r36 r37 r38 r39 r40
 else
 (if 0 ≤ x20.1.2.2.2.2.2.2.1 ∧ x20.1.2.2.2.2.2.2.1 < (↑(List.length x20.2.2.2.2.2.2.1.1) : Int) then
 (if x20.2.2.2.2.2.2.1.2.2 = false then
 (if Int.toNat x20.1.2.2.2.2.2.2.1 < List.length x20.2.2.2.2.2.2.1.1 then
 k19 ((((), (), (), ()), (), (), x20.1.2.2.2.1, (), x20.1.2.2.2.2.2.1, w64 (x20.1.2.2.2.2.2.2.1 + 1), ()), (r29, r32, r35, r25, r26, ()), (r38, r27, r28, ()), ((), (), (), x20.2.2.2.1.2.2.2), ((), (), (), x20.2.2.2.2.1.2.2.2), x20.2.2.2.2.2.1, (List.set x20.2.2.2.2.2.2.1.1 (Int.toNat x20.1.2.2.2.2.2.2.1) (Eng.setE (List.getD x20.2.2.2.2.2.2.1.1 (Int.toNat x20.1.2.2.2.2.2.2.1) Eng.V.bad) (0 : Nat) [Eng.V.c (Value.int IntKind.i64 r23)]), x20.2.2.2.2.2.2.1.2), x20.2.2.2.2.2.2.2)
 else
 False)
 else
 False)
 else
 False)))))
 else
 False)
 else
 lp (Lright_moved_1 K a1 a2 a3 a4 a5 a6 a7 a8 k19) (((), (), x20.1.2.2.2.1, (↑(List.length x20.2.2.2.2.2.2.1.1) : Int), 0, ()), x20.2.1, x20.2.2.1, ((), (), (), x20.2.2.2.1.2.2.2), ((), (), (), x20.2.2.2.2.1.2.2.2), x20.2.2.2.2.2))
def Lright_moved_0p : Lp := ⟨114742, [.trim 114742, .thin 464, .trim 114742, .thin 465, .trim 114742, .thin 466, .trim 114742, .thin 467, .trim 114742], pT113, pH112, 0⟩
def Yright_moved (xzone_Copy : Tzone_Copy) (xright_Compile_1 : Tright_Compile_1) (a0 : Q15) (a1 : (List Eng.V)) (a2 : (List Eng.V)) (a3 : (List Eng.V)) (a4 : ByteArray) (a5 : Int) (a6 : (List Eng.V)) (a7 : Bool) (a8 : Int) (K : Q100 → Int → ByteArray → Int → Bool → Int → (List Eng.V) → Bool → Bool → (List Eng.V) → Bool → Bool → (List Eng.V) → Bool → Bool → (List Eng.V) → Bool → Bool → (List Eng.V) → Bool → Bool → (List Eng.V) → Bool → Bool → (List Eng.V) → Bool → Bool → Prop) : Prop :=
 xzone_Copy a0 (fun r9 r10 r11 r12 r13 r14 r15 r16 r17 r18 =>
 lp (Lright_moved_0 xright_Compile_1 K a1 a2 a3 a4 a5 a6 a7 a8) ((((), (), (), ()), (), (), 0, (), (↑(List.length r13) : Int), 0, ()), (a1, a2, a3, a4, a5, ()), (a6, a7, a8, ()), ((), (), (), r9.2.2.2), ((), (), (), ByteArray.mk #[], 0, ()), (r10, r11, r12), (r13, r14, r15), (r16, r17, r18), ()))
def Xright_moved : Tright_moved := Yright_moved Xzone_Copy Xright_Compile_1
def Jright_moved (X : Tright_moved) : Inst := mkI 80 pL114 pH107 pL115 pH116 X
def Iright_moved : Inst := Jright_moved Xright_moved
theorem Eright_moved (xzone_Copy : Tzone_Copy) (xright_Compile_1 : Tright_Compile_1) : EqF Tryz.prog 65 gives Tryz.f80 [Jzone_Copy xzone_Copy, Jright_Compile_1 xright_Compile_1] [Lright_moved_0p, Lright_moved_1p] (Jright_moved (Yright_moved xzone_Copy xright_Compile_1)) := fun x y K => by kernel_rfl
theorem Iright_moved_ok : InstOk Tryz.prog G.1 Iright_moved := iok (gives := gives) [Lright_moved_0p, Lright_moved_1p] (okCons Izone_Copy_ok (okCons Iright_Compile_1_ok okNil)) 65 follows Tryz.func80 (by kernel_rfl) (fun x => by kernel_rfl) (Eright_moved Xzone_Copy Xright_Compile_1)
abbrev Tright_Compile : Type := Q15 → Q70 → (Q100 → Int → (List Eng.V) → Bool → Bool → (List Eng.V) → Bool → Bool → (List Eng.V) → Bool → Bool → Prop) → Prop
def Yright_Compile (xright_plain : Tright_plain) (xleap_Right : Tleap_Right) (xright_Records : Tright_Records) (xright_moved : Tright_moved) (a0 : Q15) (a1 : Q70) (K : Q100 → Int → (List Eng.V) → Bool → Bool → (List Eng.V) → Bool → Bool → (List Eng.V) → Bool → Bool → Prop) : Prop :=
 xright_plain a0 (fun r2 =>
 (if (!r2) then
 K ((), (), (), ByteArray.mk #[], 0, ()) 1 [] true true [] true true [] true true
 else
 xleap_Right a1 (fun r3 =>
 (if (!r3) then
 K ((), (), (), ByteArray.mk #[], 0, ()) 1 [] true true [] true true [] true true
 else
 xright_Records a0 a1 (fun r4 r5 r6 r7 =>
 (if (r4 != 0) then
 K ((), (), (), ByteArray.mk #[], 0, ()) r4 [] true true [] true true [] true true
 else
 xright_moved a0 a0.1 a0.2.1 a0.2.2.1 a0.2.2.2.1 a0.2.2.2.2.1 a1.1 a1.2.1 a1.2.2.1 (fun r8 r9 r10 r11 r12 r13 r14 r15 r16 r17 r18 r19 r20 r21 r22 r23 r24 r25 r26 r27 r28 r29 r30 r31 r32 r33 r34 =>
 (if (r9 != 0) then
 K ((), (), (), ByteArray.mk #[], 0, ()) r9 [] true true [] true true [] true true
 else
 (if r12 then
 K ((), (), (), r8.2.2.2.1, 4, ()) 0 r14 r15 r16 r17 r18 r19 r5 r6 r7
 else
 K ((), (), (), r8.2.2.2) 0 r14 r15 r16 r17 r18 r19 r5 r6 r7)))))))))
def Xright_Compile : Tright_Compile := Yright_Compile Xright_plain Xleap_Right Xright_Records Xright_moved
def Jright_Compile (X : Tright_Compile) : Inst := mkI 25 pL96 .nil pL117 pH102 X
def Iright_Compile : Inst := Jright_Compile Xright_Compile
theorem Eright_Compile (xright_plain : Tright_plain) (xleap_Right : Tleap_Right) (xright_Records : Tright_Records) (xright_moved : Tright_moved) : EqF Tryz.prog 44 gives Tryz.f25 [Jright_plain xright_plain, Jleap_Right xleap_Right, Jright_Records xright_Records, Jright_moved xright_moved] [] (Jright_Compile (Yright_Compile xright_plain xleap_Right xright_Records xright_moved)) := fun x y K => by kernel_rfl
theorem Iright_Compile_ok : InstOk Tryz.prog G.1 Iright_Compile := iok (gives := gives) [] (okCons Iright_plain_ok (okCons Ileap_Right_ok (okCons Iright_Records_ok (okCons Iright_moved_ok okNil)))) 44 follows Tryz.func25 (by kernel_rfl) (fun x => by kernel_rfl) (Eright_Compile Xright_plain Xleap_Right Xright_Records Xright_moved)
abbrev Tright_Strip_1 : Type := Int → (List Eng.V) → (List Eng.V) → (List Eng.V) → ByteArray → Int → (Int → Bool → ByteArray → Int → (List Eng.V) → Bool → Bool → (List Eng.V) → Bool → Bool → (List Eng.V) → Bool → Bool → Prop) → Prop
def Yright_Strip_1 (xrecord_Sum : Trecord_Sum) (xnum_Sub : Tnum_Sub) (a0 : Int) (a1 : (List Eng.V)) (a2 : (List Eng.V)) (a3 : (List Eng.V)) (a4 : ByteArray) (a5 : Int) (K : Int → Bool → ByteArray → Int → (List Eng.V) → Bool → Bool → (List Eng.V) → Bool → Bool → (List Eng.V) → Bool → Bool → Prop) : Prop :=
 xrecord_Sum a3 a0 (fun r6 =>
 xnum_Sub a0 r6 (fun r7 r8 =>
 K r7 r8 a4 a5 a1 false true a2 false true a3 false true))
def Xright_Strip_1 : Tright_Strip_1 := Yright_Strip_1 Xrecord_Sum Xnum_Sub
def Jright_Strip_1 (X : Tright_Strip_1) : Inst := mkI 85 pL118 pH39 pL25 pH40 X
def Iright_Strip_1 : Inst := Jright_Strip_1 Xright_Strip_1
theorem Eright_Strip_1 (xrecord_Sum : Trecord_Sum) (xnum_Sub : Tnum_Sub) : EqF Tryz.prog 13 gives Tryz.f85 [Jrecord_Sum xrecord_Sum, Jnum_Sub xnum_Sub] [] (Jright_Strip_1 (Yright_Strip_1 xrecord_Sum xnum_Sub)) := fun x y K => by kernel_rfl
theorem Iright_Strip_1_ok : InstOk Tryz.prog G.1 Iright_Strip_1 := iok (gives := gives) [] (okCons Irecord_Sum_ok (okCons Inum_Sub_ok okNil)) 13 follows Tryz.func85 (by kernel_rfl) (fun x => by kernel_rfl) (Eright_Strip_1 Xrecord_Sum Xnum_Sub)
abbrev Tright_moved_1 : Type := Q15 → (List Eng.V) → (List Eng.V) → (List Eng.V) → ByteArray → Int → (Q100 → Int → ByteArray → Int → (List Eng.V) → Bool → Bool → (List Eng.V) → Bool → Bool → (List Eng.V) → Bool → Bool → (List Eng.V) → Bool → Bool → (List Eng.V) → Bool → Bool → (List Eng.V) → Bool → Bool → Prop) → Prop
def Lright_moved_1_1 (K : Q100 → Int → ByteArray → Int → (List Eng.V) → Bool → Bool → (List Eng.V) → Bool → Bool → (List Eng.V) → Bool → Bool → (List Eng.V) → Bool → Bool → (List Eng.V) → Bool → Bool → (List Eng.V) → Bool → Bool → Prop) (a1 : (List Eng.V)) (a2 : (List Eng.V)) (a3 : (List Eng.V)) (a4 : ByteArray) (a5 : Int) (k16 : Q119 → Prop) : (Q120 → Prop) → Q120 → Prop := fun k33 x34 =>
 (if decide (x34.1.2.2.2.2.1 < x34.1.2.2.2.1) then
 (if decide (x34.1.2.2.2.2.1 > 0) then
 (if 0 ≤ x34.1.2.2.2.2.1 ∧ x34.1.2.2.2.2.1 < (↑(List.length x34.2.2.2.2.2.1.1) : Int) then
 (Eng.asInt IntKind.i64 (Eng.getC x34.2.2.2.2.2.1.1 (Int.toNat x34.1.2.2.2.2.1) (0 : Nat)) False fun n35 =>
 (if 0 ≤ w64 (x34.1.2.2.2.2.1 - 1) ∧ w64 (x34.1.2.2.2.2.1 - 1) < (↑(List.length x34.2.2.2.2.2.1.1) : Int) then
 (Eng.asInt IntKind.i64 (Eng.getC x34.2.2.2.2.2.1.1 (Int.toNat (w64 (x34.1.2.2.2.2.1 - 1))) (0 : Nat)) False fun n36 =>
 (if decide (n35 ≤ n36) then
 K ((), (), (), ByteArray.mk #[], 0, ()) 4 x34.2.1.2.2.2.1 x34.2.1.2.2.2.2.1 [] true true [] true true [] true true x34.2.1.1 false true x34.2.1.2.1 false true x34.2.1.2.2.1 false true
 else
 k33 (((), (), x34.1.2.2.1, x34.1.2.2.2.1, w64 (x34.1.2.2.2.2.1 + 1), ()), x34.2.1, ((), (), (), x34.2.2.1.2.2.2), ((), (), (), x34.2.2.2.1.2.2.2), x34.2.2.2.2)))
 else
 False))
 else
 False)
 else
 k33 (((), (), x34.1.2.2.1, x34.1.2.2.2.1, w64 (x34.1.2.2.2.2.1 + 1), ()), x34.2.1, ((), (), (), x34.2.2.1.2.2.2), ((), (), (), x34.2.2.2.1.2.2.2), x34.2.2.2.2))
 else
 K ((), (), (), x34.2.2.1.2.2.2) 0 x34.2.1.2.2.2.1 x34.2.1.2.2.2.2.1 x34.2.2.2.2.1.1 x34.2.2.2.2.1.2.1 x34.2.2.2.2.1.2.2 x34.2.2.2.2.2.1.1 x34.2.2.2.2.2.1.2.1 x34.2.2.2.2.2.1.2.2 x34.2.2.2.2.2.2.1.1 x34.2.2.2.2.2.2.1.2.1 x34.2.2.2.2.2.2.1.2.2 x34.2.1.1 false true x34.2.1.2.1 false true x34.2.1.2.2.1 false true)
def Lright_moved_1_1p : Lp := ⟨3298534883380, [.trim 3298534883380], pT111, pH121, 0⟩
def Lright_moved_1_0 (xright_Strip_1 : Tright_Strip_1) (K : Q100 → Int → ByteArray → Int → (List Eng.V) → Bool → Bool → (List Eng.V) → Bool → Bool → (List Eng.V) → Bool → Bool → (List Eng.V) → Bool → Bool → (List Eng.V) → Bool → Bool → (List Eng.V) → Bool → Bool → Prop) (a1 : (List Eng.V)) (a2 : (List Eng.V)) (a3 : (List Eng.V)) (a4 : ByteArray) (a5 : Int) : (Q119 → Prop) → Q119 → Prop := fun k16 x17 =>
 (if decide (x17.1.2.2.2.2.2.2.1 < x17.1.2.2.2.2.2.1) then
 (if 0 ≤ x17.1.2.2.2.2.2.2.1 ∧ x17.1.2.2.2.2.2.2.1 < (↑(List.length x17.2.2.2.2.2.1.1) : Int) then
 (Eng.asInt IntKind.i64 (Eng.getC x17.2.2.2.2.2.1.1 (Int.toNat x17.1.2.2.2.2.2.2.1) (0 : Nat)) False fun n18 =>
 (Eng.asInt IntKind.i64 (Eng.getC x17.2.2.2.2.2.1.1 (Int.toNat x17.1.2.2.2.2.2.2.1) (1 : Nat)) False fun n19 =>
 xright_Strip_1 n18 x17.2.1.1 x17.2.1.2.1 x17.2.1.2.2.1 x17.2.1.2.2.2.1 x17.2.1.2.2.2.2.1 (fun r20 r21 r22 r23 r24 r25 r26 r27 r28 r29 r30 r31 r32 =>
 (if (!r21) then
 K ((), (), (), ByteArray.mk #[], 0, ()) 8 r22 r23 [] true true [] true true [] true true r24 r25 r26 r27 r28 r29 r30 r31 r32
 else
 (if 0 ≤ x17.1.2.2.2.2.2.2.1 ∧ x17.1.2.2.2.2.2.2.1 < (↑(List.length x17.2.2.2.2.2.1.1) : Int) then
 (if x17.2.2.2.2.2.1.2.2 = false then
 (if Int.toNat x17.1.2.2.2.2.2.2.1 < List.length x17.2.2.2.2.2.1.1 then
 k16 ((((), (), ()), (), (), x17.1.2.2.2.1, (), x17.1.2.2.2.2.2.1, w64 (x17.1.2.2.2.2.2.2.1 + 1), ()), (r24, r27, r30, r22, r23, ()), ((), (), (), x17.2.2.1.2.2.2), ((), (), (), x17.2.2.2.1.2.2.2), x17.2.2.2.2.1, (List.set x17.2.2.2.2.2.1.1 (Int.toNat x17.1.2.2.2.2.2.2.1) (Eng.setE (List.getD x17.2.2.2.2.2.1.1 (Int.toNat x17.1.2.2.2.2.2.2.1) Eng.V.bad) (0 : Nat) [Eng.V.c (Value.int IntKind.i64 r20)]), x17.2.2.2.2.2.1.2), x17.2.2.2.2.2.2)
 else
 False)
 else
 False)
 else
 False)))))
 else
 False)
 else
 lp (Lright_moved_1_1 K a1 a2 a3 a4 a5 k16) (((), (), x17.1.2.2.2.1, (↑(List.length x17.2.2.2.2.2.1.1) : Int), 0, ()), x17.2.1, ((), (), (), x17.2.2.1.2.2.2), ((), (), (), x17.2.2.2.1.2.2.2), x17.2.2.2.2))
def Lright_moved_1_0p : Lp := ⟨114742, [.trim 114742, .thin 464, .trim 114742, .thin 465, .trim 114742, .thin 466, .trim 114742], pT122, pH121, 0⟩
def Yright_moved_1 (xzone_Copy : Tzone_Copy) (xright_Strip_1 : Tright_Strip_1) (a0 : Q15) (a1 : (List Eng.V)) (a2 : (List Eng.V)) (a3 : (List Eng.V)) (a4 : ByteArray) (a5 : Int) (K : Q100 → Int → ByteArray → Int → (List Eng.V) → Bool → Bool → (List Eng.V) → Bool → Bool → (List Eng.V) → Bool → Bool → (List Eng.V) → Bool → Bool → (List Eng.V) → Bool → Bool → (List Eng.V) → Bool → Bool → Prop) : Prop :=
 xzone_Copy a0 (fun r6 r7 r8 r9 r10 r11 r12 r13 r14 r15 =>
 lp (Lright_moved_1_0 xright_Strip_1 K a1 a2 a3 a4 a5) ((((), (), ()), (), (), 0, (), (↑(List.length r10) : Int), 0, ()), (a1, a2, a3, a4, a5, ()), ((), (), (), r6.2.2.2), ((), (), (), ByteArray.mk #[], 0, ()), (r7, r8, r9), (r10, r11, r12), (r13, r14, r15), ()))
def Xright_moved_1 : Tright_moved_1 := Yright_moved_1 Xzone_Copy Xright_Strip_1
def Jright_moved_1 (X : Tright_moved_1) : Inst := mkI 80 pL123 pH39 pL124 pH125 X
def Iright_moved_1 : Inst := Jright_moved_1 Xright_moved_1
theorem Eright_moved_1 (xzone_Copy : Tzone_Copy) (xright_Strip_1 : Tright_Strip_1) : EqF Tryz.prog 65 gives Tryz.f80 [Jzone_Copy xzone_Copy, Jright_Strip_1 xright_Strip_1] [Lright_moved_1_0p, Lright_moved_1_1p] (Jright_moved_1 (Yright_moved_1 xzone_Copy xright_Strip_1)) := fun x y K => by kernel_rfl
theorem Iright_moved_1_ok : InstOk Tryz.prog G.1 Iright_moved_1 := iok (gives := gives) [Lright_moved_1_0p, Lright_moved_1_1p] (okCons Izone_Copy_ok (okCons Iright_Strip_1_ok okNil)) 65 follows Tryz.func80 (by kernel_rfl) (fun x => by kernel_rfl) (Eright_moved_1 Xzone_Copy Xright_Strip_1)
abbrev Tright_Strip : Type := Q15 → (Q100 → Int → (List Eng.V) → Bool → Bool → (List Eng.V) → Bool → Bool → (List Eng.V) → Bool → Bool → Prop) → Prop
def Yright_Strip (xzone_Right : Tzone_Right) (xright_moved_1 : Tright_moved_1) (a0 : Q15) (K : Q100 → Int → (List Eng.V) → Bool → Bool → (List Eng.V) → Bool → Bool → (List Eng.V) → Bool → Bool → Prop) : Prop :=
 xzone_Right a0 (fun r1 =>
 (if (!r1) then
 K ((), (), (), ByteArray.mk #[], 0, ()) 1 [] true true [] true true [] true true
 else
 xright_moved_1 a0 a0.1 a0.2.1 a0.2.2.1 a0.2.2.2.1 a0.2.2.2.2.1 (fun r2 r3 r4 r5 r6 r7 r8 r9 r10 r11 r12 r13 r14 r15 r16 r17 r18 r19 r20 r21 r22 r23 =>
 K ((), (), (), r2.2.2.2) r3 r6 r7 r8 r9 r10 r11 [] true true)))
def Xright_Strip : Tright_Strip := Yright_Strip Xzone_Right Xright_moved_1
def Jright_Strip (X : Tright_Strip) : Inst := mkI 27 pL19 .nil pL117 pH102 X
def Iright_Strip : Inst := Jright_Strip Xright_Strip
theorem Eright_Strip (xzone_Right : Tzone_Right) (xright_moved_1 : Tright_moved_1) : EqF Tryz.prog 19 gives Tryz.f27 [Jzone_Right xzone_Right, Jright_moved_1 xright_moved_1] [] (Jright_Strip (Yright_Strip xzone_Right xright_moved_1)) := fun x y K => by kernel_rfl
theorem Iright_Strip_ok : InstOk Tryz.prog G.1 Iright_Strip := iok (gives := gives) [] (okCons Izone_Right_ok (okCons Iright_moved_1_ok okNil)) 19 follows Tryz.func27 (by kernel_rfl) (fun x => by kernel_rfl) (Eright_Strip Xzone_Right Xright_moved_1)
abbrev Tepactref12_Same : Type := (List Eng.V) → (List Eng.V) → (Bool → Prop) → Prop
def Lepactref12_Same_0 (K : Bool → Prop) : (Q126 → Prop) → Q126 → Prop := fun k2 x3 =>
 (if decide (x3.1.2.2.2.1 < (↑(List.length x3.1.1) : Int)) then
 (if 0 ≤ x3.1.2.2.2.1 ∧ x3.1.2.2.2.1 < (↑(List.length x3.1.1) : Int) then
 (Eng.asInt IntKind.i64 (Eng.getC x3.1.1 (Int.toNat x3.1.2.2.2.1) (0 : Nat)) False fun n4 =>
 (Eng.asInt IntKind.i64 (Eng.getC x3.1.1 (Int.toNat x3.1.2.2.2.1) (1 : Nat)) False fun n5 =>
 (if 0 ≤ x3.1.2.2.2.1 ∧ x3.1.2.2.2.1 < (↑(List.length x3.1.2.1) : Int) then
 (Eng.asInt IntKind.i64 (Eng.getC x3.1.2.1 (Int.toNat x3.1.2.2.2.1) (0 : Nat)) False fun n6 =>
 (Eng.asInt IntKind.i64 (Eng.getC x3.1.2.1 (Int.toNat x3.1.2.2.2.1) (1 : Nat)) False fun n7 =>
 (if (!(n4 == n6 && (n5 == n7 && true))) then
 K false
 else
 k2 ((x3.1.1, x3.1.2.1, x3.1.2.2.1, w64 (x3.1.2.2.2.1 + 1), ()), ()))))
 else
 False)))
 else
 False)
 else
 K true)
def Lepactref12_Same_0p : Lp := ⟨51, [.trim 51], pT127, .nil, 0⟩
def Yepactref12_Same (a0 : (List Eng.V)) (a1 : (List Eng.V)) (K : Bool → Prop) : Prop :=
 (if ((↑(List.length a0) : Int) != (↑(List.length a1) : Int)) then
 K false
 else
 lp (Lepactref12_Same_0 K) ((a0, a1, false, 0, ()), ()))
def Xepactref12_Same : Tepactref12_Same := Yepactref12_Same
def Jepactref12_Same (X : Tepactref12_Same) : Inst := mkI 38 pL128 .nil pL1 .nil X
def Iepactref12_Same : Inst := Jepactref12_Same Xepactref12_Same
theorem Eepactref12_Same : EqF Tryz.prog 26 gives Tryz.f38 [] [Lepactref12_Same_0p] (Jepactref12_Same (Yepactref12_Same)) := fun x y K => by kernel_rfl
theorem Iepactref12_Same_ok : InstOk Tryz.prog G.1 Iepactref12_Same := iok (gives := gives) [Lepactref12_Same_0p] okNil 26 follows Tryz.func38 (by kernel_rfl) (fun x => by kernel_rfl) (Eepactref12_Same)
abbrev Tepactref16_Same : Type := Q15 → Q15 → (Bool → Prop) → Prop
def Lepactref16_Same_1 (xepactref12_Same : Tepactref12_Same) (K : Bool → Prop) (k2 : Q129 → Prop) : (Q129 → Prop) → Q129 → Prop := fun k11 x12 =>
 (if decide (x12.1.2.2.2.1 < (↑(List.length x12.2.1.2.1) : Int)) then
 (if 0 ≤ x12.1.2.2.2.1 ∧ x12.1.2.2.2.1 < (↑(List.length x12.2.1.2.1) : Int) then
 (Eng.asInt IntKind.i64 (Eng.getC x12.2.1.2.1 (Int.toNat x12.1.2.2.2.1) (0 : Nat)) False fun n13 =>
 (Eng.asInt IntKind.i64 (Eng.getC x12.2.1.2.1 (Int.toNat x12.1.2.2.2.1) (1 : Nat)) False fun n14 =>
 (if 0 ≤ x12.1.2.2.2.1 ∧ x12.1.2.2.2.1 < (↑(List.length x12.2.2.1.2.1) : Int) then
 (Eng.asInt IntKind.i64 (Eng.getC x12.2.2.1.2.1 (Int.toNat x12.1.2.2.2.1) (0 : Nat)) False fun n15 =>
 (Eng.asInt IntKind.i64 (Eng.getC x12.2.2.1.2.1 (Int.toNat x12.1.2.2.2.1) (1 : Nat)) False fun n16 =>
 (if (!(n13 == n15 && (n14 == n16 && true))) then
 K false
 else
 k11 (((), (), x12.1.2.2.1, w64 (x12.1.2.2.2.1 + 1), ()), x12.2))))
 else
 False)))
 else
 False)
 else
 xepactref12_Same x12.2.1.2.2.1 x12.2.2.1.2.2.1 (fun r17 =>
 K r17))
def Lepactref16_Same_1p : Lp := ⟨92, [.trim 92], pT130, pH131, 0⟩
def Lepactref16_Same_0 (xepactref12_Same : Tepactref12_Same) (K : Bool → Prop) : (Q129 → Prop) → Q129 → Prop := fun k2 x3 =>
 (if decide (x3.1.2.2.2.1 < (↑(List.length x3.2.1.1) : Int)) then
 (if 0 ≤ x3.1.2.2.2.1 ∧ x3.1.2.2.2.1 < (↑(List.length x3.2.1.1) : Int) then
 (Eng.asInt IntKind.i64 (Eng.getC x3.2.1.1 (Int.toNat x3.1.2.2.2.1) (0 : Nat)) False fun n4 =>
 (Eng.asBool (Eng.getC x3.2.1.1 (Int.toNat x3.1.2.2.2.1) (1 : Nat)) False fun b5 =>
 (Eng.asStr (Eng.getC x3.2.1.1 (Int.toNat x3.1.2.2.2.1) (2 : Nat)) False fun t6 =>
 (if 0 ≤ x3.1.2.2.2.1 ∧ x3.1.2.2.2.1 < (↑(List.length x3.2.2.1.1) : Int) then
 (Eng.asInt IntKind.i64 (Eng.getC x3.2.2.1.1 (Int.toNat x3.1.2.2.2.1) (0 : Nat)) False fun n7 =>
 (Eng.asBool (Eng.getC x3.2.2.1.1 (Int.toNat x3.1.2.2.2.1) (1 : Nat)) False fun b8 =>
 (Eng.asStr (Eng.getC x3.2.2.1.1 (Int.toNat x3.1.2.2.2.1) (2 : Nat)) False fun t9 =>
 (lt (!(n4 == n7 && (b5 == b8 && (ByteArray.toList t6 == ByteArray.toList t9 && true)))) fun v10 =>
 (if v10 then
 K false
 else
 k2 (((), (), x3.1.2.2.1, w64 (x3.1.2.2.2.1 + 1), ()), x3.2))))))
 else
 False))))
 else
 False)
 else
 lp (Lepactref16_Same_1 xepactref12_Same K k2) (((), (), x3.1.2.2.1, 0, ()), x3.2))
def Lepactref16_Same_0p : Lp := ⟨60, [.trim 60], pT132, pH131, 0⟩
def Yepactref16_Same (xepactref12_Same : Tepactref12_Same) (a0 : Q15) (a1 : Q15) (K : Bool → Prop) : Prop :=
 (if ((↑(List.length a0.1) : Int) != (↑(List.length a1.1) : Int)) then
 K false
 else
 (if ((↑(List.length a0.2.1) : Int) != (↑(List.length a1.2.1) : Int)) then
 K false
 else
 (if (!ByteArray.toList a0.2.2.2.1 == ByteArray.toList a1.2.2.2.1) then
 K false
 else
 (if (a0.2.2.2.2.1 != a1.2.2.2.2.1) then
 K false
 else
 lp (Lepactref16_Same_0 xepactref12_Same K) (((), (), false, 0, ()), a0, a1, ())))))
def Xepactref16_Same : Tepactref16_Same := Yepactref16_Same Xepactref12_Same
def Jepactref16_Same (X : Tepactref16_Same) : Inst := mkI 29 pL133 .nil pL1 .nil X
def Iepactref16_Same : Inst := Jepactref16_Same Xepactref16_Same
theorem Eepactref16_Same (xepactref12_Same : Tepactref12_Same) : EqF Tryz.prog 78 gives Tryz.f29 [Jepactref12_Same xepactref12_Same] [Lepactref16_Same_0p, Lepactref16_Same_1p] (Jepactref16_Same (Yepactref16_Same xepactref12_Same)) := fun x y K => by kernel_rfl
theorem Iepactref16_Same_ok : InstOk Tryz.prog G.1 Iepactref16_Same := iok (gives := gives) [Lepactref16_Same_0p, Lepactref16_Same_1p] (okCons Iepactref12_Same_ok okNil) 78 follows Tryz.func29 (by kernel_rfl) (fun x => by kernel_rfl) (Eepactref16_Same Xepactref12_Same)
abbrev Tepactlaw21_small : Type := (Bool → Prop) → Prop
def Yepactlaw21_small (xright_Compile : Tright_Compile) (xright_Strip : Tright_Strip) (xright_Records : Tright_Records) (xright_Shift : Tright_Shift) (xepactref16_Same : Tepactref16_Same) (xright_Instant : Tright_Instant) (xepactref12_Same : Tepactref12_Same) (K : Bool → Prop) : Prop :=
 xright_Compile ([Eng.V.agg [Eng.V.c (Value.int IntKind.i64 (-18000)), Eng.V.c (Value.bool false), Eng.V.c (Value.string (ByteArray.mk #[(69 : UInt8), (83 : UInt8), (84 : UInt8)]))], Eng.V.agg [Eng.V.c (Value.int IntKind.i64 (-14400)), Eng.V.c (Value.bool true), Eng.V.c (Value.string (ByteArray.mk #[(69 : UInt8), (68 : UInt8), (84 : UInt8)]))]], [Eng.V.agg [Eng.V.c (Value.int IntKind.i64 5), Eng.V.c (Value.int IntKind.i64 1)], Eng.V.agg [Eng.V.c (Value.int IntKind.i64 78796799), Eng.V.c (Value.int IntKind.i64 0)], Eng.V.agg [Eng.V.c (Value.int IntKind.i64 78796801), Eng.V.c (Value.int IntKind.i64 1)], Eng.V.agg [Eng.V.c (Value.int IntKind.i64 100000000), Eng.V.c (Value.int IntKind.i64 0)]], [], ByteArray.mk #[], 2, ()) ([Eng.V.agg [Eng.V.c (Value.int IntKind.i64 911), Eng.V.c (Value.int IntKind.i64 1), Eng.V.c (Value.bool false)], Eng.V.agg [Eng.V.c (Value.int IntKind.i64 1095), Eng.V.c (Value.int IntKind.i64 1), Eng.V.c (Value.bool false)]], true, 200000000, ()) (fun r0 r1 r2 r3 r4 r5 r6 r7 r8 r9 r10 =>
 xright_Strip (r2, r5, r8, r0.2.2.2) (fun r11 r12 r13 r14 r15 r16 r17 r18 r19 r20 r21 =>
 (if ((↑(List.length r5) : Int) != 4) then
 K false
 else
 (if ((↑(List.length r8) : Int) != 3) then
 K false
 else
 xright_Records ([Eng.V.agg [Eng.V.c (Value.int IntKind.i64 (-18000)), Eng.V.c (Value.bool false), Eng.V.c (Value.string (ByteArray.mk #[(69 : UInt8), (83 : UInt8), (84 : UInt8)]))], Eng.V.agg [Eng.V.c (Value.int IntKind.i64 (-14400)), Eng.V.c (Value.bool true), Eng.V.c (Value.string (ByteArray.mk #[(69 : UInt8), (68 : UInt8), (84 : UInt8)]))]], [Eng.V.agg [Eng.V.c (Value.int IntKind.i64 5), Eng.V.c (Value.int IntKind.i64 1)], Eng.V.agg [Eng.V.c (Value.int IntKind.i64 78796799), Eng.V.c (Value.int IntKind.i64 0)], Eng.V.agg [Eng.V.c (Value.int IntKind.i64 78796801), Eng.V.c (Value.int IntKind.i64 1)], Eng.V.agg [Eng.V.c (Value.int IntKind.i64 100000000), Eng.V.c (Value.int IntKind.i64 0)]], [], ByteArray.mk #[], 2, ()) ([Eng.V.agg [Eng.V.c (Value.int IntKind.i64 911), Eng.V.c (Value.int IntKind.i64 1), Eng.V.c (Value.bool true)]], false, 0, ()) (fun r22 r23 r24 r25 =>
 xright_Shift ([Eng.V.agg [Eng.V.c (Value.int IntKind.i64 (-18000)), Eng.V.c (Value.bool false), Eng.V.c (Value.string (ByteArray.mk #[(69 : UInt8), (83 : UInt8), (84 : UInt8)]))], Eng.V.agg [Eng.V.c (Value.int IntKind.i64 (-14400)), Eng.V.c (Value.bool true), Eng.V.c (Value.string (ByteArray.mk #[(69 : UInt8), (68 : UInt8), (84 : UInt8)]))]], [Eng.V.agg [Eng.V.c (Value.int IntKind.i64 5), Eng.V.c (Value.int IntKind.i64 1)], Eng.V.agg [Eng.V.c (Value.int IntKind.i64 78796799), Eng.V.c (Value.int IntKind.i64 0)], Eng.V.agg [Eng.V.c (Value.int IntKind.i64 78796801), Eng.V.c (Value.int IntKind.i64 1)], Eng.V.agg [Eng.V.c (Value.int IntKind.i64 100000000), Eng.V.c (Value.int IntKind.i64 0)]], [], ByteArray.mk #[], 2, ()) ([Eng.V.agg [Eng.V.c (Value.int IntKind.i64 911), Eng.V.c (Value.int IntKind.i64 1), Eng.V.c (Value.bool false)], Eng.V.agg [Eng.V.c (Value.int IntKind.i64 1095), Eng.V.c (Value.int IntKind.i64 1), Eng.V.c (Value.bool false)]], true, 200000000, ()) 78796800 (fun r26 r27 =>
 xright_Compile (r2, r5, r8, r0.2.2.2) ([Eng.V.agg [Eng.V.c (Value.int IntKind.i64 911), Eng.V.c (Value.int IntKind.i64 1), Eng.V.c (Value.bool false)], Eng.V.agg [Eng.V.c (Value.int IntKind.i64 1095), Eng.V.c (Value.int IntKind.i64 1), Eng.V.c (Value.bool false)]], true, 200000000, ()) (fun r28 r29 r30 r31 r32 r33 r34 r35 r36 r37 r38 =>
 xright_Compile ([Eng.V.agg [Eng.V.c (Value.int IntKind.i64 (-18000)), Eng.V.c (Value.bool false), Eng.V.c (Value.string (ByteArray.mk #[(69 : UInt8), (83 : UInt8), (84 : UInt8)]))], Eng.V.agg [Eng.V.c (Value.int IntKind.i64 (-14400)), Eng.V.c (Value.bool true), Eng.V.c (Value.string (ByteArray.mk #[(69 : UInt8), (68 : UInt8), (84 : UInt8)]))]], [Eng.V.agg [Eng.V.c (Value.int IntKind.i64 78796799), Eng.V.c (Value.int IntKind.i64 0)], Eng.V.agg [Eng.V.c (Value.int IntKind.i64 78796800), Eng.V.c (Value.int IntKind.i64 1)]], [], ByteArray.mk #[], 2, ()) ([Eng.V.agg [Eng.V.c (Value.int IntKind.i64 911), Eng.V.c (Value.int IntKind.i64 (-1)), Eng.V.c (Value.bool false)]], false, 0, ()) (fun r39 r40 r41 r42 r43 r44 r45 r46 r47 r48 r49 =>
 xright_Shift ([Eng.V.agg [Eng.V.c (Value.int IntKind.i64 (-18000)), Eng.V.c (Value.bool false), Eng.V.c (Value.string (ByteArray.mk #[(69 : UInt8), (83 : UInt8), (84 : UInt8)]))], Eng.V.agg [Eng.V.c (Value.int IntKind.i64 (-14400)), Eng.V.c (Value.bool true), Eng.V.c (Value.string (ByteArray.mk #[(69 : UInt8), (68 : UInt8), (84 : UInt8)]))]], [Eng.V.agg [Eng.V.c (Value.int IntKind.i64 5), Eng.V.c (Value.int IntKind.i64 1)], Eng.V.agg [Eng.V.c (Value.int IntKind.i64 78796799), Eng.V.c (Value.int IntKind.i64 0)], Eng.V.agg [Eng.V.c (Value.int IntKind.i64 78796801), Eng.V.c (Value.int IntKind.i64 1)], Eng.V.agg [Eng.V.c (Value.int IntKind.i64 100000000), Eng.V.c (Value.int IntKind.i64 0)]], [], ByteArray.mk #[], 2, ()) ([Eng.V.agg [Eng.V.c (Value.int IntKind.i64 911), Eng.V.c (Value.int IntKind.i64 1), Eng.V.c (Value.bool false)], Eng.V.agg [Eng.V.c (Value.int IntKind.i64 1095), Eng.V.c (Value.int IntKind.i64 1), Eng.V.c (Value.bool false)]], true, 200000000, ()) 9223372036854775807 (fun r50 r51 =>
 (if (r1 == 0) then
 (if (0 :Int) ≤ 0 ∧ 0 < (↑(List.length r5) : Int) then
 (Eng.asInt IntKind.i64 (Eng.getC r5 (0 : Nat) (0 : Nat)) False fun n52 =>
 (if (n52 == 5) then
 (if (0 :Int) ≤ 1 ∧ 1 < (↑(List.length r5) : Int) then
 (Eng.asInt IntKind.i64 (Eng.getC r5 (1 : Nat) (0 : Nat)) False fun n53 =>
 (if (n53 == 78796799) then
 (if (0 :Int) ≤ 2 ∧ 2 < (↑(List.length r5) : Int) then
 (Eng.asInt IntKind.i64 (Eng.getC r5 (2 : Nat) (0 : Nat)) False fun n54 =>
 (if (n54 == 78796802) then
 (if (0 :Int) ≤ 3 ∧ 3 < (↑(List.length r5) : Int) then
 (Eng.asInt IntKind.i64 (Eng.getC r5 (3 : Nat) (0 : Nat)) False fun n55 =>
 (if (n55 == 100000002) then
 (if (r0.2.2.2.2.1 == 4) then
 (if (0 :Int) ≤ 2 ∧ 2 < (↑(List.length r8) : Int) then
 (Eng.asInt IntKind.i64 (Eng.getC r8 (2 : Nat) (0 : Nat)) False fun n56 =>
 (Eng.asInt IntKind.i64 (Eng.getC r8 (2 : Nat) (1 : Nat)) False fun n57 =>
 (if (n56 == 200000002 && (n57 == 2 && true)) then
 (if (r12 == 0) then
 xepactref16_Same (r13, r16, r19, r11.2.2.2.1, 2, ()) ([Eng.V.agg [Eng.V.c (Value.int IntKind.i64 (-18000)), Eng.V.c (Value.bool false), Eng.V.c (Value.string (ByteArray.mk #[(69 : UInt8), (83 : UInt8), (84 : UInt8)]))], Eng.V.agg [Eng.V.c (Value.int IntKind.i64 (-14400)), Eng.V.c (Value.bool true), Eng.V.c (Value.string (ByteArray.mk #[(69 : UInt8), (68 : UInt8), (84 : UInt8)]))]], [Eng.V.agg [Eng.V.c (Value.int IntKind.i64 5), Eng.V.c (Value.int IntKind.i64 1)], Eng.V.agg [Eng.V.c (Value.int IntKind.i64 78796799), Eng.V.c (Value.int IntKind.i64 0)], Eng.V.agg [Eng.V.c (Value.int IntKind.i64 78796801), Eng.V.c (Value.int IntKind.i64 1)], Eng.V.agg [Eng.V.c (Value.int IntKind.i64 100000000), Eng.V.c (Value.int IntKind.i64 0)]], [], ByteArray.mk #[], 2, ()) (fun r58 =>
 (if r58 then
 xright_Instant ([Eng.V.agg [Eng.V.c (Value.int IntKind.i64 (-18000)), Eng.V.c (Value.bool false), Eng.V.c (Value.string (ByteArray.mk #[(69 : UInt8), (83 : UInt8), (84 : UInt8)]))], Eng.V.agg [Eng.V.c (Value.int IntKind.i64 (-14400)), Eng.V.c (Value.bool true), Eng.V.c (Value.string (ByteArray.mk #[(69 : UInt8), (68 : UInt8), (84 : UInt8)]))]], [Eng.V.agg [Eng.V.c (Value.int IntKind.i64 5), Eng.V.c (Value.int IntKind.i64 1)], Eng.V.agg [Eng.V.c (Value.int IntKind.i64 78796799), Eng.V.c (Value.int IntKind.i64 0)], Eng.V.agg [Eng.V.c (Value.int IntKind.i64 78796801), Eng.V.c (Value.int IntKind.i64 1)], Eng.V.agg [Eng.V.c (Value.int IntKind.i64 100000000), Eng.V.c (Value.int IntKind.i64 0)]], [], ByteArray.mk #[], 2, ()) (911, 1, true, ()) (fun r59 =>
 (if (r59 == 78814800) then
 (if (r22 == 0) then
 xepactref12_Same r23 ([Eng.V.agg [Eng.V.c (Value.int IntKind.i64 78814800), Eng.V.c (Value.int IntKind.i64 1)]]) (fun r60 =>
 (if r60 then
 (if (r26 == 78796801) then
 (if r27 then
 (if (r29 == 1) then
 (if (r40 == 4) then
 K !r51
 else
 K false)
 else
 K false)
 else
 K false)
 else
 K false)
 else
 K false))
 else
 K false)
 else
 K false))
 else
 K false))
 else
 K false)
 else
 K false)))
 else
 False)
 else
 K false)
 else
 K false))
 else
 False)
 else
 K false))
 else
 False)
 else
 K false))
 else
 False)
 else
 K false))
 else
 False)
 else
 K false))))))))))
def Xepactlaw21_small : Tepactlaw21_small := Yepactlaw21_small Xright_Compile Xright_Strip Xright_Records Xright_Shift Xepactref16_Same Xright_Instant Xepactref12_Same
def Jepactlaw21_small (X : Tepactlaw21_small) : Inst := mkI 22 .nil .nil pL1 .nil X
def Iepactlaw21_small : Inst := Jepactlaw21_small Xepactlaw21_small
theorem Eepactlaw21_small (xright_Compile : Tright_Compile) (xright_Strip : Tright_Strip) (xright_Records : Tright_Records) (xright_Shift : Tright_Shift) (xepactref16_Same : Tepactref16_Same) (xright_Instant : Tright_Instant) (xepactref12_Same : Tepactref12_Same) : EqF Tryz.prog 186 gives Tryz.f22 [Jright_Compile xright_Compile, Jright_Strip xright_Strip, Jright_Records xright_Records, Jright_Shift xright_Shift, Jepactref16_Same xepactref16_Same, Jright_Instant xright_Instant, Jepactref12_Same xepactref12_Same] [] (Jepactlaw21_small (Yepactlaw21_small xright_Compile xright_Strip xright_Records xright_Shift xepactref16_Same xright_Instant xepactref12_Same)) := fun x y K => by kernel_rfl
theorem Iepactlaw21_small_ok : InstOk Tryz.prog G.1 Iepactlaw21_small := iok (gives := gives) [] (okCons Iright_Compile_ok (okCons Iright_Strip_ok (okCons Iright_Records_ok (okCons Iright_Shift_ok (okCons Iepactref16_Same_ok (okCons Iright_Instant_ok (okCons Iepactref12_Same_ok okNil))))))) 186 follows Tryz.func22 (by kernel_rfl) (fun x => by kernel_rfl) (Eepactlaw21_small Xright_Compile Xright_Strip Xright_Records Xright_Shift Xepactref16_Same Xright_Instant Xepactref12_Same)
abbrev Tepactlaw16_Few : Type := Q15 → (Bool → Prop) → Prop
def Lepactlaw16_Few_0 (K : Bool → Prop) : (Q134 → Prop) → Q134 → Prop := fun k1 x2 =>
 (if decide (x2.1.2.2.1 < (↑(List.length x2.2.1.1) : Int)) then
 (if decide (x2.1.2.2.1 < 100) then
 (if 0 ≤ x2.1.2.2.1 ∧ x2.1.2.2.1 < (↑(List.length x2.2.1.1) : Int) then
 (Eng.asStr (Eng.getC x2.2.1.1 (Int.toNat x2.1.2.2.1) (2 : Nat)) False fun t3 =>
 (if decide ((↑(ByteArray.size t3) : Int) > 100) then
 K false
 else
 k1 (((), x2.1.2.1, w64 (x2.1.2.2.1 + 1), ()), x2.2)))
 else
 False)
 else
 (if decide ((↑(List.length x2.2.1.1) : Int) ≤ 100) then
 (if decide ((↑(List.length x2.2.1.2.1) : Int) ≤ 300) then
 (if decide ((↑(List.length x2.2.1.2.2.1) : Int) ≤ 300) then
 K (decide ((↑(ByteArray.size x2.2.1.2.2.2.1) : Int) ≤ 200))
 else
 K false)
 else
 K false)
 else
 K false))
 else
 (if decide ((↑(List.length x2.2.1.1) : Int) ≤ 100) then
 (if decide ((↑(List.length x2.2.1.2.1) : Int) ≤ 300) then
 (if decide ((↑(List.length x2.2.1.2.2.1) : Int) ≤ 300) then
 K (decide ((↑(ByteArray.size x2.2.1.2.2.2.1) : Int) ≤ 200))
 else
 K false)
 else
 K false)
 else
 K false))
def Lepactlaw16_Few_0p : Lp := ⟨14, [.trim 14], pT135, pH136, 0⟩
def Yepactlaw16_Few (a0 : Q15) (K : Bool → Prop) : Prop :=
 lp (Lepactlaw16_Few_0 K) (((), false, 0, ()), a0, ())
def Xepactlaw16_Few : Tepactlaw16_Few := Yepactlaw16_Few
def Jepactlaw16_Few (X : Tepactlaw16_Few) : Inst := mkI 23 pL19 .nil pL1 .nil X
def Iepactlaw16_Few : Inst := Jepactlaw16_Few Xepactlaw16_Few
theorem Eepactlaw16_Few : EqF Tryz.prog 45 gives Tryz.f23 [] [Lepactlaw16_Few_0p] (Jepactlaw16_Few (Yepactlaw16_Few)) := fun x y K => by kernel_rfl
theorem Iepactlaw16_Few_ok : InstOk Tryz.prog G.1 Iepactlaw16_Few := iok (gives := gives) [Lepactlaw16_Few_0p] okNil 45 follows Tryz.func23 (by kernel_rfl) (fun x => by kernel_rfl) (Eepactlaw16_Few)
abbrev Tepactlaw09_Few : Type := Q70 → (Bool → Prop) → Prop
def Yepactlaw09_Few (a0 : Q70) (K : Bool → Prop) : Prop :=
 K (decide ((↑(List.length a0.1) : Int) ≤ 300))
def Xepactlaw09_Few : Tepactlaw09_Few := Yepactlaw09_Few
def Jepactlaw09_Few (X : Tepactlaw09_Few) : Inst := mkI 24 pL74 .nil pL1 .nil X
def Iepactlaw09_Few : Inst := Jepactlaw09_Few Xepactlaw09_Few
theorem Eepactlaw09_Few : EqF Tryz.prog 7 gives Tryz.f24 [] [] (Jepactlaw09_Few (Yepactlaw09_Few)) := fun x y K => by kernel_rfl
theorem Iepactlaw09_Few_ok : InstOk Tryz.prog G.1 Iepactlaw09_Few := iok (gives := gives) [] okNil 7 follows Tryz.func24 (by kernel_rfl) (fun x => by kernel_rfl) (Eepactlaw09_Few)
abbrev Tslices_Equal___api_Corr_api_Corr_ : Type := (List Eng.V) → (List Eng.V) → (Bool → Prop) → Prop
def Lslices_Equal___api_Corr_api_Corr__0 (K : Bool → Prop) : (Q141 → Prop) → Q141 → Prop := fun k2 x3 =>
 (if decide (x3.1.2.2.2.2.1 < x3.1.2.2.2.1) then
 (if 0 ≤ x3.1.2.2.2.2.1 ∧ x3.1.2.2.2.2.1 < (↑(List.length x3.1.1) : Int) then
 (Eng.asInt IntKind.i64 (Eng.getC x3.1.1 (Int.toNat x3.1.2.2.2.2.1) (0 : Nat)) False fun n4 =>
 (Eng.asInt IntKind.i64 (Eng.getC x3.1.1 (Int.toNat x3.1.2.2.2.2.1) (1 : Nat)) False fun n5 =>
 (if 0 ≤ x3.1.2.2.2.2.1 ∧ x3.1.2.2.2.2.1 < (↑(List.length x3.1.2.1) : Int) then
 (Eng.asInt IntKind.i64 (Eng.getC x3.1.2.1 (Int.toNat x3.1.2.2.2.2.1) (0 : Nat)) False fun n6 =>
 (Eng.asInt IntKind.i64 (Eng.getC x3.1.2.1 (Int.toNat x3.1.2.2.2.2.1) (1 : Nat)) False fun n7 =>
 (if (!(n4 == n6 && (n5 == n7 && true))) then
 K false
 else
 k2 ((x3.1.1, x3.1.2.1, x3.1.2.2.1, x3.1.2.2.2.1, w64 (x3.1.2.2.2.2.1 + 1), ()), ()))))
 else
 False)))
 else
 False)
 else
 K true)
def Lslices_Equal___api_Corr_api_Corr__0p : Lp := ⟨12307, [.trim 12307], pT142, .nil, 0⟩
def Yslices_Equal___api_Corr_api_Corr_ (a0 : (List Eng.V)) (a1 : (List Eng.V)) (K : Bool → Prop) : Prop :=
 (if ((↑(List.length a0) : Int) != (↑(List.length a1) : Int)) then
 K false
 else
 lp (Lslices_Equal___api_Corr_api_Corr__0 K) ((a0, a1, false, (↑(List.length a0) : Int), 0, ()), ()))
def Xslices_Equal___api_Corr_api_Corr_ : Tslices_Equal___api_Corr_api_Corr_ := Yslices_Equal___api_Corr_api_Corr_
def Jslices_Equal___api_Corr_api_Corr_ (X : Tslices_Equal___api_Corr_api_Corr_) : Inst := mkI 109 pL128 .nil pL1 .nil X
def Islices_Equal___api_Corr_api_Corr_ : Inst := Jslices_Equal___api_Corr_api_Corr_ Xslices_Equal___api_Corr_api_Corr_
theorem Eslices_Equal___api_Corr_api_Corr_ : EqF Tryz.prog 26 gives Tryz.f109 [] [Lslices_Equal___api_Corr_api_Corr__0p] (Jslices_Equal___api_Corr_api_Corr_ (Yslices_Equal___api_Corr_api_Corr_)) := fun x y K => by kernel_rfl
theorem Islices_Equal___api_Corr_api_Corr__ok : InstOk Tryz.prog G.1 Islices_Equal___api_Corr_api_Corr_ := iok (gives := gives) [Lslices_Equal___api_Corr_api_Corr__0p] okNil 26 follows Tryz.func109 (by kernel_rfl) (fun x => by kernel_rfl) (Eslices_Equal___api_Corr_api_Corr_)
abbrev Trecord_Same : Type := (List Eng.V) → (List Eng.V) → (Bool → Prop) → Prop
def Yrecord_Same (xslices_Equal___api_Corr_api_Corr_ : Tslices_Equal___api_Corr_api_Corr_) (a0 : (List Eng.V)) (a1 : (List Eng.V)) (K : Bool → Prop) : Prop :=
 xslices_Equal___api_Corr_api_Corr_ a0 a1 (fun r2 =>
 K r2)
def Xrecord_Same : Trecord_Same := Yrecord_Same Xslices_Equal___api_Corr_api_Corr_
def Jrecord_Same (X : Trecord_Same) : Inst := mkI 44 pL128 .nil pL1 .nil X
def Irecord_Same : Inst := Jrecord_Same Xrecord_Same
theorem Erecord_Same (xslices_Equal___api_Corr_api_Corr_ : Tslices_Equal___api_Corr_api_Corr_) : EqF Tryz.prog 8 gives Tryz.f44 [Jslices_Equal___api_Corr_api_Corr_ xslices_Equal___api_Corr_api_Corr_] [] (Jrecord_Same (Yrecord_Same xslices_Equal___api_Corr_api_Corr_)) := fun x y K => by kernel_rfl
theorem Irecord_Same_ok : InstOk Tryz.prog G.1 Irecord_Same := iok (gives := gives) [] (okCons Islices_Equal___api_Corr_api_Corr__ok okNil) 8 follows Tryz.func44 (by kernel_rfl) (fun x => by kernel_rfl) (Erecord_Same Xslices_Equal___api_Corr_api_Corr_)
abbrev Trecord_Records_1 : Type := Q68 → (Bool → Prop) → Prop
def Yrecord_Records_1 (a0 : Q68) (K : Bool → Prop) : Prop :=
 K a0.2.2.1
def Xrecord_Records_1 : Trecord_Records_1 := Yrecord_Records_1
def Jrecord_Records_1 (X : Trecord_Records_1) : Inst := mkI 110 pL140 .nil pL1 .nil X
def Irecord_Records_1 : Inst := Jrecord_Records_1 Xrecord_Records_1
theorem Erecord_Records_1 : EqF Tryz.prog 5 gives Tryz.f110 [] [] (Jrecord_Records_1 (Yrecord_Records_1)) := fun x y K => by kernel_rfl
theorem Irecord_Records_1_ok : InstOk Tryz.prog G.1 Irecord_Records_1 := iok (gives := gives) [] okNil 5 follows Tryz.func110 (by kernel_rfl) (fun x => by kernel_rfl) (Erecord_Records_1)
abbrev Tslices_IndexFunc___api_Leap_api_Leap_ : Type := (List Eng.V) → (Int → Prop) → Prop
def Lslices_IndexFunc___api_Leap_api_Leap__0 (xrecord_Records_1 : Trecord_Records_1) (K : Int → Prop) : (Q144 → Prop) → Q144 → Prop := fun k1 x2 =>
 (if decide (x2.1.2.2.2.2.1 < x2.1.2.2.2.1) then
 (if 0 ≤ x2.1.2.2.2.2.1 ∧ x2.1.2.2.2.2.1 < (↑(List.length x2.1.1) : Int) then
 (Eng.asInt IntKind.i64 (Eng.getC x2.1.1 (Int.toNat x2.1.2.2.2.2.1) (0 : Nat)) False fun n3 =>
 (Eng.asInt IntKind.i64 (Eng.getC x2.1.1 (Int.toNat x2.1.2.2.2.2.1) (1 : Nat)) False fun n4 =>
 (Eng.asBool (Eng.getC x2.1.1 (Int.toNat x2.1.2.2.2.2.1) (2 : Nat)) False fun b5 =>
 xrecord_Records_1 (n3, n4, b5, ()) (fun r6 =>
 (if r6 then
 K x2.1.2.2.2.2.1
 else
 k1 ((x2.1.1, ((), ()), x2.1.2.2.1, x2.1.2.2.2.1, w64 (x2.1.2.2.2.2.1 + 1), ()), ()))))))
 else
 False)
 else
 K (-1))
def Lslices_IndexFunc___api_Leap_api_Leap__0p : Lp := ⟨403, [.trim 403], pT145, .nil, 0⟩
def Yslices_IndexFunc___api_Leap_api_Leap_ (xrecord_Records_1 : Trecord_Records_1) (a0 : (List Eng.V)) (K : Int → Prop) : Prop :=
 lp (Lslices_IndexFunc___api_Leap_api_Leap__0 xrecord_Records_1 K) ((a0, ((), ()), 0, (↑(List.length a0) : Int), 0, ()), ())
def Xslices_IndexFunc___api_Leap_api_Leap_ : Tslices_IndexFunc___api_Leap_api_Leap_ := Yslices_IndexFunc___api_Leap_api_Leap_ Xrecord_Records_1
def Jslices_IndexFunc___api_Leap_api_Leap_ (X : Tslices_IndexFunc___api_Leap_api_Leap_) : Inst := mkI 187 pL146 .nil pL6 .nil X
def Islices_IndexFunc___api_Leap_api_Leap_ : Inst := Jslices_IndexFunc___api_Leap_api_Leap_ Xslices_IndexFunc___api_Leap_api_Leap_
theorem Eslices_IndexFunc___api_Leap_api_Leap_ (xrecord_Records_1 : Trecord_Records_1) : EqF Tryz.prog 19 gives Tryz.f187 [Jrecord_Records_1 xrecord_Records_1] [Lslices_IndexFunc___api_Leap_api_Leap__0p] (Jslices_IndexFunc___api_Leap_api_Leap_ (Yslices_IndexFunc___api_Leap_api_Leap_ xrecord_Records_1)) := fun x y K => by kernel_rfl
theorem Islices_IndexFunc___api_Leap_api_Leap__ok : InstOk Tryz.prog G.1 Islices_IndexFunc___api_Leap_api_Leap_ := iok (gives := gives) [Lslices_IndexFunc___api_Leap_api_Leap__0p] (okCons Irecord_Records_1_ok okNil) 19 follows Tryz.func187 (by kernel_rfl) (fun x => by kernel_rfl) (Eslices_IndexFunc___api_Leap_api_Leap_ Xrecord_Records_1)
abbrev Tslices_ContainsFunc___api_Leap_api_Leap_ : Type := (List Eng.V) → (Bool → Prop) → Prop
def Yslices_ContainsFunc___api_Leap_api_Leap_ (xslices_IndexFunc___api_Leap_api_Leap_ : Tslices_IndexFunc___api_Leap_api_Leap_) (a0 : (List Eng.V)) (K : Bool → Prop) : Prop :=
 xslices_IndexFunc___api_Leap_api_Leap_ a0 (fun r1 =>
 K (decide (r1 ≥ 0)))
def Xslices_ContainsFunc___api_Leap_api_Leap_ : Tslices_ContainsFunc___api_Leap_api_Leap_ := Yslices_ContainsFunc___api_Leap_api_Leap_ Xslices_IndexFunc___api_Leap_api_Leap_
def Jslices_ContainsFunc___api_Leap_api_Leap_ (X : Tslices_ContainsFunc___api_Leap_api_Leap_) : Inst := mkI 111 pL146 .nil pL1 .nil X
def Islices_ContainsFunc___api_Leap_api_Leap_ : Inst := Jslices_ContainsFunc___api_Leap_api_Leap_ Xslices_ContainsFunc___api_Leap_api_Leap_
theorem Eslices_ContainsFunc___api_Leap_api_Leap_ (xslices_IndexFunc___api_Leap_api_Leap_ : Tslices_IndexFunc___api_Leap_api_Leap_) : EqF Tryz.prog 9 gives Tryz.f111 [Jslices_IndexFunc___api_Leap_api_Leap_ xslices_IndexFunc___api_Leap_api_Leap_] [] (Jslices_ContainsFunc___api_Leap_api_Leap_ (Yslices_ContainsFunc___api_Leap_api_Leap_ xslices_IndexFunc___api_Leap_api_Leap_)) := fun x y K => by kernel_rfl
theorem Islices_ContainsFunc___api_Leap_api_Leap__ok : InstOk Tryz.prog G.1 Islices_ContainsFunc___api_Leap_api_Leap_ := iok (gives := gives) [] (okCons Islices_IndexFunc___api_Leap_api_Leap__ok okNil) 9 follows Tryz.func111 (by kernel_rfl) (fun x => by kernel_rfl) (Eslices_ContainsFunc___api_Leap_api_Leap_ Xslices_IndexFunc___api_Leap_api_Leap_)
abbrev Trecord_Records : Type := Q70 → (Bool → (List Eng.V) → Bool → Bool → Prop) → Prop
def Lrecord_Records_0 (K : Bool → (List Eng.V) → Bool → Bool → Prop) : (Q147 → Prop) → Q147 → Prop := fun k3 x4 =>
 (if decide (x4.1.2.2.2.2.2.2.1 < x4.1.2.2.2.2.2.1) then
 (if 0 ≤ x4.1.2.2.2.2.2.2.1 ∧ x4.1.2.2.2.2.2.2.1 < (↑(List.length x4.1.2.2.2.2.1) : Int) then
 (Eng.asInt IntKind.i64 (Eng.getC x4.1.2.2.2.2.1 (Int.toNat x4.1.2.2.2.2.2.2.1) (0 : Nat)) False fun n5 =>
 (Eng.asInt IntKind.i64 (Eng.getC x4.1.2.2.2.2.1 (Int.toNat x4.1.2.2.2.2.2.2.1) (1 : Nat)) False fun n6 =>
 (Eng.asBool (Eng.getC x4.1.2.2.2.2.1 (Int.toNat x4.1.2.2.2.2.2.2.1) (2 : Nat)) False fun b7 =>
 (lt (w64 (w64 (n5 + 1) * 86400)) fun v8 =>
 (lt (w64 (w64 (v8 + x4.1.2.2.2.1) + if 0 < n6 then 0 else n6)) fun v9 =>
 (if Eng.roomOk (List.length x4.2.2.1 + List.length [Eng.V.agg [Eng.V.c (Value.int IntKind.i64 v9), Eng.V.c (Value.int IntKind.i64 (w64 (x4.1.2.2.2.1 + n6)))]]) (16 : Nat) then
 (lt (x4.2.2.1 ++ [Eng.V.agg [Eng.V.c (Value.int IntKind.i64 v9), Eng.V.c (Value.int IntKind.i64 (w64 (x4.1.2.2.2.1 + n6)))]]) fun v10 =>
 k3 (((), (), x4.1.2.2.1, w64 (x4.1.2.2.2.1 + n6), x4.1.2.2.2.2.1, x4.1.2.2.2.2.2.1, w64 (x4.1.2.2.2.2.2.2.1 + 1), ()), x4.2.1, v10, ()))
 else
 False))))))
 else
 False)
 else
 (if x4.2.1.2.1 then
 (if Eng.roomOk (List.length x4.2.2.1 + List.length [Eng.V.agg [Eng.V.c (Value.int IntKind.i64 (w64 (x4.2.1.2.2.1 + x4.1.2.2.2.1))), Eng.V.c (Value.int IntKind.i64 x4.1.2.2.2.1)]]) (16 : Nat) then
 (lt (x4.2.2.1 ++ [Eng.V.agg [Eng.V.c (Value.int IntKind.i64 (w64 (x4.2.1.2.2.1 + x4.1.2.2.2.1))), Eng.V.c (Value.int IntKind.i64 x4.1.2.2.2.1)]]) fun v11 =>
 K true v11 true false)
 else
 False)
 else
 K true x4.2.2.1 true false))
def Lrecord_Records_0p : Lp := ⟨3670062, [.trim 3670062, .fat 2 2 992, .trim 3670062], pT148, pH149, 0⟩
def Yrecord_Records (xleap_Right : Tleap_Right) (xslices_ContainsFunc___api_Leap_api_Leap_ : Tslices_ContainsFunc___api_Leap_api_Leap_) (a0 : Q70) (K : Bool → (List Eng.V) → Bool → Bool → Prop) : Prop :=
 xleap_Right a0 (fun r1 =>
 (if (!r1) then
 K false [] true true
 else
 xslices_ContainsFunc___api_Leap_api_Leap_ a0.1 (fun r2 =>
 (if r2 then
 K false [] true true
 else
 lp (Lrecord_Records_0 K) (((), (), false, 0, a0.1, (↑(List.length a0.1) : Int), 0, ()), a0, [], ())))))
def Xrecord_Records : Trecord_Records := Yrecord_Records Xleap_Right Xslices_ContainsFunc___api_Leap_api_Leap_
def Jrecord_Records (X : Trecord_Records) : Inst := mkI 45 pL74 .nil pL150 pH31 X
def Irecord_Records : Inst := Jrecord_Records Xrecord_Records
theorem Erecord_Records (xleap_Right : Tleap_Right) (xslices_ContainsFunc___api_Leap_api_Leap_ : Tslices_ContainsFunc___api_Leap_api_Leap_) : EqF Tryz.prog 58 gives Tryz.f45 [Jleap_Right xleap_Right, Jslices_ContainsFunc___api_Leap_api_Leap_ xslices_ContainsFunc___api_Leap_api_Leap_] [Lrecord_Records_0p] (Jrecord_Records (Yrecord_Records xleap_Right xslices_ContainsFunc___api_Leap_api_Leap_)) := fun x y K => by kernel_rfl
theorem Irecord_Records_ok : InstOk Tryz.prog G.1 Irecord_Records := iok (gives := gives) [Lrecord_Records_0p] (okCons Ileap_Right_ok (okCons Islices_ContainsFunc___api_Leap_api_Leap__ok okNil)) 58 follows Tryz.func45 (by kernel_rfl) (fun x => by kernel_rfl) (Erecord_Records Xleap_Right Xslices_ContainsFunc___api_Leap_api_Leap_)
abbrev Tslices_Equal___api_Type_api_Type_ : Type := (List Eng.V) → (List Eng.V) → (Bool → Prop) → Prop
def Lslices_Equal___api_Type_api_Type__0 (K : Bool → Prop) : (Q141 → Prop) → Q141 → Prop := fun k2 x3 =>
 (if decide (x3.1.2.2.2.2.1 < x3.1.2.2.2.1) then
 (if 0 ≤ x3.1.2.2.2.2.1 ∧ x3.1.2.2.2.2.1 < (↑(List.length x3.1.1) : Int) then
 (Eng.asInt IntKind.i64 (Eng.getC x3.1.1 (Int.toNat x3.1.2.2.2.2.1) (0 : Nat)) False fun n4 =>
 (Eng.asBool (Eng.getC x3.1.1 (Int.toNat x3.1.2.2.2.2.1) (1 : Nat)) False fun b5 =>
 (Eng.asStr (Eng.getC x3.1.1 (Int.toNat x3.1.2.2.2.2.1) (2 : Nat)) False fun t6 =>
 (if 0 ≤ x3.1.2.2.2.2.1 ∧ x3.1.2.2.2.2.1 < (↑(List.length x3.1.2.1) : Int) then
 (Eng.asInt IntKind.i64 (Eng.getC x3.1.2.1 (Int.toNat x3.1.2.2.2.2.1) (0 : Nat)) False fun n7 =>
 (Eng.asBool (Eng.getC x3.1.2.1 (Int.toNat x3.1.2.2.2.2.1) (1 : Nat)) False fun b8 =>
 (Eng.asStr (Eng.getC x3.1.2.1 (Int.toNat x3.1.2.2.2.2.1) (2 : Nat)) False fun t9 =>
 (lt (!(n4 == n7 && (b5 == b8 && (ByteArray.toList t6 == ByteArray.toList t9 && true)))) fun v10 =>
 (if v10 then
 K false
 else
 k2 ((x3.1.1, x3.1.2.1, x3.1.2.2.1, x3.1.2.2.2.1, w64 (x3.1.2.2.2.2.1 + 1), ()), ()))))))
 else
 False))))
 else
 False)
 else
 K true)
def Lslices_Equal___api_Type_api_Type__0p : Lp := ⟨12307, [.trim 12307], pT151, .nil, 0⟩
def Yslices_Equal___api_Type_api_Type_ (a0 : (List Eng.V)) (a1 : (List Eng.V)) (K : Bool → Prop) : Prop :=
 (if ((↑(List.length a0) : Int) != (↑(List.length a1) : Int)) then
 K false
 else
 lp (Lslices_Equal___api_Type_api_Type__0 K) ((a0, a1, false, (↑(List.length a0) : Int), 0, ()), ()))
def Xslices_Equal___api_Type_api_Type_ : Tslices_Equal___api_Type_api_Type_ := Yslices_Equal___api_Type_api_Type_
def Jslices_Equal___api_Type_api_Type_ (X : Tslices_Equal___api_Type_api_Type_) : Inst := mkI 112 pL152 .nil pL1 .nil X
def Islices_Equal___api_Type_api_Type_ : Inst := Jslices_Equal___api_Type_api_Type_ Xslices_Equal___api_Type_api_Type_
theorem Eslices_Equal___api_Type_api_Type_ : EqF Tryz.prog 26 gives Tryz.f112 [] [Lslices_Equal___api_Type_api_Type__0p] (Jslices_Equal___api_Type_api_Type_ (Yslices_Equal___api_Type_api_Type_)) := fun x y K => by kernel_rfl
theorem Islices_Equal___api_Type_api_Type__ok : InstOk Tryz.prog G.1 Islices_Equal___api_Type_api_Type_ := iok (gives := gives) [Lslices_Equal___api_Type_api_Type__0p] okNil 26 follows Tryz.func112 (by kernel_rfl) (fun x => by kernel_rfl) (Eslices_Equal___api_Type_api_Type_)
abbrev Tslices_Equal___api_Trans_api_Trans_ : Type := (List Eng.V) → (List Eng.V) → (Bool → Prop) → Prop
def Lslices_Equal___api_Trans_api_Trans__0 (K : Bool → Prop) : (Q141 → Prop) → Q141 → Prop := fun k2 x3 =>
 (if decide (x3.1.2.2.2.2.1 < x3.1.2.2.2.1) then
 (if 0 ≤ x3.1.2.2.2.2.1 ∧ x3.1.2.2.2.2.1 < (↑(List.length x3.1.1) : Int) then
 (Eng.asInt IntKind.i64 (Eng.getC x3.1.1 (Int.toNat x3.1.2.2.2.2.1) (0 : Nat)) False fun n4 =>
 (Eng.asInt IntKind.i64 (Eng.getC x3.1.1 (Int.toNat x3.1.2.2.2.2.1) (1 : Nat)) False fun n5 =>
 (if 0 ≤ x3.1.2.2.2.2.1 ∧ x3.1.2.2.2.2.1 < (↑(List.length x3.1.2.1) : Int) then
 (Eng.asInt IntKind.i64 (Eng.getC x3.1.2.1 (Int.toNat x3.1.2.2.2.2.1) (0 : Nat)) False fun n6 =>
 (Eng.asInt IntKind.i64 (Eng.getC x3.1.2.1 (Int.toNat x3.1.2.2.2.2.1) (1 : Nat)) False fun n7 =>
 (if (!(n4 == n6 && (n5 == n7 && true))) then
 K false
 else
 k2 ((x3.1.1, x3.1.2.1, x3.1.2.2.1, x3.1.2.2.2.1, w64 (x3.1.2.2.2.2.1 + 1), ()), ()))))
 else
 False)))
 else
 False)
 else
 K true)
def Lslices_Equal___api_Trans_api_Trans__0p : Lp := ⟨12307, [.trim 12307], pT142, .nil, 0⟩
def Yslices_Equal___api_Trans_api_Trans_ (a0 : (List Eng.V)) (a1 : (List Eng.V)) (K : Bool → Prop) : Prop :=
 (if ((↑(List.length a0) : Int) != (↑(List.length a1) : Int)) then
 K false
 else
 lp (Lslices_Equal___api_Trans_api_Trans__0 K) ((a0, a1, false, (↑(List.length a0) : Int), 0, ()), ()))
def Xslices_Equal___api_Trans_api_Trans_ : Tslices_Equal___api_Trans_api_Trans_ := Yslices_Equal___api_Trans_api_Trans_
def Jslices_Equal___api_Trans_api_Trans_ (X : Tslices_Equal___api_Trans_api_Trans_) : Inst := mkI 113 pL128 .nil pL1 .nil X
def Islices_Equal___api_Trans_api_Trans_ : Inst := Jslices_Equal___api_Trans_api_Trans_ Xslices_Equal___api_Trans_api_Trans_
theorem Eslices_Equal___api_Trans_api_Trans_ : EqF Tryz.prog 26 gives Tryz.f113 [] [Lslices_Equal___api_Trans_api_Trans__0p] (Jslices_Equal___api_Trans_api_Trans_ (Yslices_Equal___api_Trans_api_Trans_)) := fun x y K => by kernel_rfl
theorem Islices_Equal___api_Trans_api_Trans__ok : InstOk Tryz.prog G.1 Islices_Equal___api_Trans_api_Trans_ := iok (gives := gives) [Lslices_Equal___api_Trans_api_Trans__0p] okNil 26 follows Tryz.func113 (by kernel_rfl) (fun x => by kernel_rfl) (Eslices_Equal___api_Trans_api_Trans_)
abbrev Tzone_Same : Type := Q15 → Q15 → (Bool → Prop) → Prop
def Yzone_Same (xslices_Equal___api_Type_api_Type_ : Tslices_Equal___api_Type_api_Type_) (xslices_Equal___api_Trans_api_Trans_ : Tslices_Equal___api_Trans_api_Trans_) (xslices_Equal___api_Corr_api_Corr_ : Tslices_Equal___api_Corr_api_Corr_) (a0 : Q15) (a1 : Q15) (K : Bool → Prop) : Prop :=
 xslices_Equal___api_Type_api_Type_ a0.1 a1.1 (fun r2 =>
 (if r2 then
 xslices_Equal___api_Trans_api_Trans_ a0.2.1 a1.2.1 (fun r3 =>
 (if r3 then
 xslices_Equal___api_Corr_api_Corr_ a0.2.2.1 a1.2.2.1 (fun r4 =>
 (if r4 then
 (if (ByteArray.toList a0.2.2.2.1 == ByteArray.toList a1.2.2.2.1) then
 K (a0.2.2.2.2.1 == a1.2.2.2.2.1)
 else
 K false)
 else
 K false))
 else
 K false))
 else
 K false))
def Xzone_Same : Tzone_Same := Yzone_Same Xslices_Equal___api_Type_api_Type_ Xslices_Equal___api_Trans_api_Trans_ Xslices_Equal___api_Corr_api_Corr_
def Jzone_Same (X : Tzone_Same) : Inst := mkI 46 pL133 .nil pL1 .nil X
def Izone_Same : Inst := Jzone_Same Xzone_Same
theorem Ezone_Same (xslices_Equal___api_Type_api_Type_ : Tslices_Equal___api_Type_api_Type_) (xslices_Equal___api_Trans_api_Trans_ : Tslices_Equal___api_Trans_api_Trans_) (xslices_Equal___api_Corr_api_Corr_ : Tslices_Equal___api_Corr_api_Corr_) : EqF Tryz.prog 40 gives Tryz.f46 [Jslices_Equal___api_Type_api_Type_ xslices_Equal___api_Type_api_Type_, Jslices_Equal___api_Trans_api_Trans_ xslices_Equal___api_Trans_api_Trans_, Jslices_Equal___api_Corr_api_Corr_ xslices_Equal___api_Corr_api_Corr_] [] (Jzone_Same (Yzone_Same xslices_Equal___api_Type_api_Type_ xslices_Equal___api_Trans_api_Trans_ xslices_Equal___api_Corr_api_Corr_)) := fun x y K => by kernel_rfl
theorem Izone_Same_ok : InstOk Tryz.prog G.1 Izone_Same := iok (gives := gives) [] (okCons Islices_Equal___api_Type_api_Type__ok (okCons Islices_Equal___api_Trans_api_Trans__ok (okCons Islices_Equal___api_Corr_api_Corr__ok okNil))) 40 follows Tryz.func46 (by kernel_rfl) (fun x => by kernel_rfl) (Ezone_Same Xslices_Equal___api_Type_api_Type_ Xslices_Equal___api_Trans_api_Trans_ Xslices_Equal___api_Corr_api_Corr_)
abbrev Tepactlaw21_RightPlain : Type := Q15 → Q70 → (Bool → Prop) → Prop
def Yepactlaw21_RightPlain (xepactlaw21_small : Tepactlaw21_small) (xepactlaw16_Few : Tepactlaw16_Few) (xepactlaw09_Few : Tepactlaw09_Few) (xzone_Right : Tzone_Right) (xright_Compile : Tright_Compile) (xrecord_Records : Trecord_Records) (xzone_Same : Tzone_Same) (xright_Records : Tright_Records) (xrecord_Same : Trecord_Same) (a0 : Q15) (a1 : Q70) (K : Bool → Prop) : Prop :=
 xepactlaw21_small (fun r2 =>
 xepactlaw16_Few a0 (fun r3 =>
 xepactlaw09_Few a1 (fun r4 =>
 (if (!r3) then
 K r2
 else
 (if (!r4) then
 K r2
 else
 xzone_Right a0 (fun r5 =>
 (if (!r5) then
 K r2
 else
 (if decide ((↑(List.length a0.2.2.1) : Int) > 0) then
 K r2
 else
 xright_Compile a0 ([], false, 0, ()) (fun r6 r7 r8 r9 r10 r11 r12 r13 r14 r15 r16 =>
 xrecord_Records a1 (fun r17 r18 r19 r20 =>
 (if (!r17) then
 (if r2 then
 (if (r7 == 0) then
 xzone_Same (r8, r11, r14, r6.2.2.2) a0 (fun r21 =>
 K r21)
 else
 K false)
 else
 K false)
 else
 xright_Records a0 a1 (fun r22 r23 r24 r25 =>
 (if r2 then
 (if (r7 == 0) then
 xzone_Same (r8, r11, r14, r6.2.2.2) a0 (fun r26 =>
 (if r26 then
 (if (r22 == 0) then
 xrecord_Same r23 r18 (fun r27 =>
 K r27)
 else
 K false)
 else
 K false))
 else
 K false)
 else
 K false)))))))))))))
def Xepactlaw21_RightPlain : Tepactlaw21_RightPlain := Yepactlaw21_RightPlain Xepactlaw21_small Xepactlaw16_Few Xepactlaw09_Few Xzone_Right Xright_Compile Xrecord_Records Xzone_Same Xright_Records Xrecord_Same
def Jepactlaw21_RightPlain (X : Tepactlaw21_RightPlain) : Inst := mkI 8 pL96 .nil pL1 .nil X
def Iepactlaw21_RightPlain : Inst := Jepactlaw21_RightPlain Xepactlaw21_RightPlain
theorem Eepactlaw21_RightPlain (xepactlaw21_small : Tepactlaw21_small) (xepactlaw16_Few : Tepactlaw16_Few) (xepactlaw09_Few : Tepactlaw09_Few) (xzone_Right : Tzone_Right) (xright_Compile : Tright_Compile) (xrecord_Records : Trecord_Records) (xzone_Same : Tzone_Same) (xright_Records : Tright_Records) (xrecord_Same : Trecord_Same) : EqF Tryz.prog 85 gives Tryz.f8 [Jepactlaw21_small xepactlaw21_small, Jepactlaw16_Few xepactlaw16_Few, Jepactlaw09_Few xepactlaw09_Few, Jzone_Right xzone_Right, Jright_Compile xright_Compile, Jrecord_Records xrecord_Records, Jzone_Same xzone_Same, Jright_Records xright_Records, Jrecord_Same xrecord_Same] [] (Jepactlaw21_RightPlain (Yepactlaw21_RightPlain xepactlaw21_small xepactlaw16_Few xepactlaw09_Few xzone_Right xright_Compile xrecord_Records xzone_Same xright_Records xrecord_Same)) := fun x y K => by kernel_rfl
theorem Iepactlaw21_RightPlain_ok : InstOk Tryz.prog G.1 Iepactlaw21_RightPlain := iok (gives := gives) [] (okCons Iepactlaw21_small_ok (okCons Iepactlaw16_Few_ok (okCons Iepactlaw09_Few_ok (okCons Izone_Right_ok (okCons Iright_Compile_ok (okCons Irecord_Records_ok (okCons Izone_Same_ok (okCons Iright_Records_ok (okCons Irecord_Same_ok okNil))))))))) 85 follows Tryz.func8 (by kernel_rfl) (fun x => by kernel_rfl) (Eepactlaw21_RightPlain Xepactlaw21_small Xepactlaw16_Few Xepactlaw09_Few Xzone_Right Xright_Compile Xrecord_Records Xzone_Same Xright_Records Xrecord_Same)
end Go.Proofs.YtenaflbcnkalbaaGreatDoor
end
section
set_option linter.unusedVariables false
set_option linter.unusedSimpArgs false
set_option linter.unusedVariables false
namespace Go.Proofs.YtenaflbcnkalbaaGreatDoor
open Go Go.Proofs.YtenaflbcnkalbaaGreatDoor.Eng
abbrev akRightPlain0 : AK := (.st (.cons (.sl (.st (.cons (.int .i64) (.cons .bool (.cons .str .nil))))) (.cons (.sl (.st (.cons (.int .i64) (.cons (.int .i64) .nil)))) (.cons (.sl (.st (.cons (.int .i64) (.cons (.int .i64) .nil)))) (.cons .str (.cons (.int .i64) .nil))))))
abbrev akRightPlain1 : AK := (.st (.cons (.sl (.st (.cons (.int .i64) (.cons (.int .i64) (.cons .bool .nil))))) (.cons .bool (.cons (.int .i64) .nil))))
/-- The law over plain data. -/
def PureRightPlain : Prop := ∀ (a0 : akRightPlain0.T) (h0 : akRightPlain0.good a0) (a1 : akRightPlain1.T) (h1 : akRightPlain1.good a1), Xepactlaw21_RightPlain (akRightPlain0.DV a0) (akRightPlain1.DV a1) (fun b => b = true)
end Go.Proofs.YtenaflbcnkalbaaGreatDoor
end
section
set_option linter.unusedVariables false
set_option linter.unusedSimpArgs false
namespace Go.Proofs.YtenaflbcnkalbaaGreatDoor.Pl
open Go
set_option linter.unusedVariables false
set_option linter.unusedSimpArgs false
def digsN : Nat → Nat → List UInt8
  | 0, _ => []
  | k + 1, u => if u < 10 then [UInt8.ofNat (48 + u)] else digsN k (u / 10) ++ [UInt8.ofNat (48 + u % 10)]
def itoaK (n : Int) : List UInt8 := if n < 0 then 45 :: digsN 20 n.natAbs else digsN 20 n.toNat
def isDig (c : UInt8) : Bool := 48 ≤ c.toNat && c.toNat ≤ 57
/-- A text out of a list. -/
abbrev S (l : List UInt8) : ByteArray := ⟨l.toArray⟩
theorem S_size (l : List UInt8) : (S l).size = l.length := by simp [S, ByteArray.size]
theorem S_append (a b : List UInt8) : S a ++ S b = S (a ++ b) := ByteArray.mk_append_mk a b
theorem S_toList (l : List UInt8) : (S l).toList = l := ByteArray.toList_mk l
theorem S_data (l : List UInt8) : (S l).data.toList = l := by simp [S]
theorem S_extract (l : List UInt8) (a b : Nat) : (S l).extract a b = S ((l.drop a).take (b - a)) := by rw [Lib.extract_eq, S_data]
theorem u8_eq {a b : UInt8} (h : a.toNat = b.toNat) : a = b := UInt8.toNat_inj.1 h
/-- How many digits a list begins with. -/
def dl (l : List UInt8) : Nat := (l.takeWhile isDig).length
theorem dl_le (l : List UInt8) : dl l ≤ l.length := by unfold dl; exact (List.takeWhile_sublist _).length_le
theorem dl_cons (c : UInt8) (l : List UInt8) : dl (c :: l) = if isDig c = true then dl l + 1 else 0 := by
  unfold dl; rw [List.takeWhile_cons]; split <;> simp
/-- The number of a row of digits. -/
def valL (l : List UInt8) : Nat := l.foldl (fun n c => 10 * n + (c.toNat - 48)) 0
theorem decFrom_val : ∀ (l : List UInt8) (acc : Nat), (∀ c ∈ l, isDig c = true) → Lib.decFrom acc l = some (l.foldl (fun n c => 10 * n + (c.toNat - 48)) acc)
  | [], acc, _ => rfl
  | c :: l, acc, h => by
    have hc : isDig c = true := h c (by simp)
    unfold isDig at hc
    simp at hc
    unfold Lib.decFrom Lib.digitVal
    rw [if_pos hc]
    simp only []
    rw [decFrom_val l _ (fun c' hc' => h c' (by simp [hc'])), List.foldl_cons, Nat.mul_comm]
theorem atoi_val (l : List UInt8) (hne : l ≠ []) (h : ∀ c ∈ l, isDig c = true) : Lib.atoi l = some (valL l : Int) := by
  cases l with
  | nil => exact absurd rfl hne
  | cons c r =>
    have hc : isDig c = true := h c (by simp)
    unfold isDig at hc
    simp at hc
    have h1 : (c == 45) = false := by rw [beq_eq_false_iff_ne]; rintro rfl; simp at hc
    have h2 : (c == 43) = false := by rw [beq_eq_false_iff_ne]; rintro rfl; simp at hc
    simp only [Lib.atoi, Lib.decNat, h1, h2, Bool.false_eq_true, if_false, List.isEmpty_cons]
    rw [decFrom_val _ _ h]
    rfl
theorem take_dl_dig (l : List UInt8) (k : Nat) (h : k ≤ dl l) : ∀ c ∈ l.take k, isDig c = true := by
  intro c hc
  have hs : l.take k = (l.takeWhile isDig).take k := by
    conv => lhs; rw [← List.takeWhile_append_dropWhile (p := isDig) (l := l)]
    rw [List.take_append_of_le_length h]
  rw [hs] at hc
  have hall : (l.takeWhile isDig).all isDig = true := List.all_takeWhile
  exact List.all_eq_true.1 hall c (List.mem_of_mem_take hc)
end Go.Proofs.YtenaflbcnkalbaaGreatDoor.Pl
end
section
set_option linter.unusedVariables false
set_option linter.unusedSimpArgs false
namespace Go.Proofs.YtenaflbcnkalbaaGreatDoor.Pl
open Go
set_option linter.unusedVariables false
set_option linter.unusedSimpArgs false
/-- What stands behind a colon: minutes, or seconds. -/
def sixtyL : List UInt8 → Int × List UInt8 × Bool
  | c :: a :: b :: r => if c = 58 ∧ isDig a = true ∧ isDig b = true ∧ a.toNat ≤ 53 then (10 * (a.toNat - 48) + (b.toNat - 48), r, true) else (0, c :: a :: b :: r, false)
  | l => (0, l, false)
theorem foldl_lt : ∀ (l : List UInt8) (acc : Nat), (∀ c ∈ l, isDig c = true) → l.foldl (fun n c => 10 * n + (c.toNat - 48)) acc < (acc + 1) * 10 ^ l.length
  | [], acc, _ => by simp
  | c :: l, acc, h => by
    have hc : isDig c = true := h c (by simp)
    unfold isDig at hc
    simp at hc
    have := foldl_lt l (10 * acc + (c.toNat - 48)) (fun c' hc' => h c' (by simp [hc']))
    rw [List.foldl_cons, List.length_cons, Nat.pow_succ]
    refine Nat.lt_of_lt_of_le this ?_
    have h1 : (10 * acc + (c.toNat - 48) + 1) ≤ (acc + 1) * 10 := by omega
    calc (10 * acc + (c.toNat - 48) + 1) * 10 ^ l.length ≤ ((acc + 1) * 10) * 10 ^ l.length := Nat.mul_le_mul_right _ h1
      _ = (acc + 1) * (10 ^ l.length * 10) := by rw [Nat.mul_assoc, Nat.mul_comm 10]
theorem valL_lt (l : List UInt8) (h : ∀ c ∈ l, isDig c = true) : valL l < 10 ^ l.length := by
  have := foldl_lt l 0 h
  simpa [valL] using this
theorem sixty_bd (l : List UInt8) : 0 ≤ (sixtyL l).1 ∧ (sixtyL l).1 ≤ 59 := by
  unfold sixtyL
  split
  · split
    · rename_i h
      obtain ⟨_, ha, hb, h5⟩ := h
      unfold isDig at ha hb
      simp at ha hb
      simp only []
      omega
    · simp
  · simp
/-- A time. -/
def signL : List UInt8 → Int × List UInt8
  | [] => (1, [])
  | c :: r => if c = 45 then (-1, r) else if c = 43 then (1, r) else (1, c :: r)
def hourL (t : List UInt8) : Nat × Nat :=
  if valL (t.take (min (dl t) 3)) > 167 then (valL (t.take (min (dl t) 3)) / 10, min (dl t) 3 - 1) else (valL (t.take (min (dl t) 3)), min (dl t) 3)
def moreL (p : Int × List UInt8 × Bool) : Int × List UInt8 × Bool := if p.2.2 = true then sixtyL p.2.1 else (0, p.2.1, false)
def timeL (l : List UInt8) : Int × List UInt8 × Bool :=
  if dl (signL l).2 = 0 then (0, l, false)
  else
    ((signL l).1 * ((hourL (signL l).2).1 * 3600 + (sixtyL ((signL l).2.drop (hourL (signL l).2).2)).1 * 60 + (moreL (sixtyL ((signL l).2.drop (hourL (signL l).2).2))).1),
      (moreL (sixtyL ((signL l).2.drop (hourL (signL l).2).2))).2.1, true)
theorem hour_bd (t : List UInt8) : (hourL t).1 ≤ 167 ∧ (hourL t).2 ≤ dl t ∧ (hourL t).2 ≤ 3 ∧ (dl t ≠ 0 → 1 ≤ (hourL t).2) := by
  have hv : valL (t.take (min (dl t) 3)) < 10 ^ (t.take (min (dl t) 3)).length := valL_lt _ (take_dl_dig t _ (Nat.min_le_left _ _))
  have hl : (t.take (min (dl t) 3)).length ≤ 3 := by rw [List.length_take]; omega
  have h3 : 10 ^ (t.take (min (dl t) 3)).length ≤ 10 ^ 3 := Nat.pow_le_pow_right (by omega) hl
  have hm : min (dl t) 3 ≤ dl t := Nat.min_le_left _ _
  have hm3 : min (dl t) 3 ≤ 3 := Nat.min_le_right _ _
  unfold hourL
  split
  · rename_i hgt
    refine ⟨by simp only []; omega, by simp only []; omega, by simp only []; omega, fun h0 => ?_⟩
    simp only []
    have : ¬ (t.take (min (dl t) 3)).length ≤ 1 := fun h1 => by
      have : 10 ^ (t.take (min (dl t) 3)).length ≤ 10 ^ 1 := Nat.pow_le_pow_right (by omega) h1
      omega
    rw [List.length_take] at this
    omega
  · refine ⟨by simp only []; omega, by simp only []; omega, by simp only []; omega, fun h0 => by simp only []; omega⟩
def pairL (m : Nat) : List UInt8 := 58 :: (digsN 20 (m / 10) ++ digsN 20 (m % 10))
/-- The text of a time. -/
def clockB (a : Nat) : List UInt8 := digsN 20 (a / 3600) ++ (if a % 60 ≠ 0 then pairL (a / 60 % 60) ++ pairL (a % 60) else if a / 60 % 60 ≠ 0 then pairL (a / 60 % 60) else [])
def clockL (sec : Int) : List UInt8 × Bool := if -604799 ≤ sec ∧ sec ≤ 604799 then ((if sec < 0 then [45] else []) ++ clockB sec.natAbs, true) else ([], false)
theorem sixty_drop (l : List UInt8) : ∃ j, j ≤ l.length ∧ (sixtyL l).2.1 = l.drop j := by
  unfold sixtyL
  split
  · split
    · exact ⟨3, by simp, rfl⟩
    · exact ⟨0, by simp, rfl⟩
  · exact ⟨0, by simp, rfl⟩
theorem sign_drop (l : List UInt8) : ∃ j, j ≤ l.length ∧ (signL l).2 = l.drop j ∧ ((signL l).1 = 1 ∨ (signL l).1 = -1) := by
  unfold signL
  split
  · exact ⟨0, by simp, rfl, .inl rfl⟩
  · split
    · exact ⟨1, by simp, rfl, .inr rfl⟩
    · split
      · exact ⟨1, by simp, rfl, .inl rfl⟩
      · exact ⟨0, by simp, rfl, .inl rfl⟩
theorem time_drop (l : List UInt8) : ∃ j, j ≤ l.length ∧ (timeL l).2.1 = l.drop j ∧ ((timeL l).2.2 = true ↔ 0 < j) ∧ -604799 ≤ (timeL l).1 ∧ (timeL l).1 ≤ 604799 ∧ ((timeL l).2.2 = false → (timeL l).1 = 0 ∧ j = 0) := by
  obtain ⟨j0, h0, e0, hs⟩ := sign_drop l
  unfold timeL
  by_cases hd : dl (signL l).2 = 0
  · rw [if_pos hd]
    exact ⟨0, by omega, by simp, by simp, by simp, by simp, by simp⟩
  · rw [if_neg hd]
    obtain ⟨b1, b2, b3, b4⟩ := hour_bd (signL l).2
    have b4' := b4 hd
    have hdl := dl_le (signL l).2
    obtain ⟨j1, h1, e1⟩ := sixty_drop ((signL l).2.drop (hourL (signL l).2).2)
    have s1 := sixty_bd ((signL l).2.drop (hourL (signL l).2).2)
    have key : ∃ j2, j2 ≤ (sixtyL ((signL l).2.drop (hourL (signL l).2).2)).2.1.length ∧ (moreL (sixtyL ((signL l).2.drop (hourL (signL l).2).2))).2.1 = (sixtyL ((signL l).2.drop (hourL (signL l).2).2)).2.1.drop j2 ∧
        0 ≤ (moreL (sixtyL ((signL l).2.drop (hourL (signL l).2).2))).1 ∧ (moreL (sixtyL ((signL l).2.drop (hourL (signL l).2).2))).1 ≤ 59 := by
      unfold moreL
      split
      · obtain ⟨j2, h2, e2⟩ := sixty_drop (sixtyL ((signL l).2.drop (hourL (signL l).2).2)).2.1
        exact ⟨j2, h2, e2, sixty_bd _⟩
      · exact ⟨0, by omega, rfl, by simp, by simp⟩
    obtain ⟨j2, h2, e2, hb1, hb2⟩ := key
    rw [e2, e1, e0, List.drop_drop, List.drop_drop, List.drop_drop]
    rw [e1] at h2
    rw [e0] at h1 h2 hdl b2
    simp only [List.length_drop] at h1 h2 hdl
    rw [e0] at b4' b3 s1 hb1 hb2
    refine ⟨_, ?_, rfl, ?_, ?_⟩
    · omega
    · simp; omega
    · generalize (sixtyL (List.drop (hourL (List.drop j0 l)).2 (List.drop j0 l))).1 = x at *
      generalize (moreL (sixtyL (List.drop (hourL (List.drop j0 l)).2 (List.drop j0 l)))).1 = y at *
      rw [e0] at b1
      generalize (hourL (List.drop j0 l)).1 = v at *
      rcases hs with hs | hs <;> rw [hs] <;> refine ⟨?_, ?_, by simp⟩ <;> omega
end Go.Proofs.YtenaflbcnkalbaaGreatDoor.Pl
end
section
set_option linter.unusedVariables false
set_option linter.unusedSimpArgs false
namespace Go.Proofs.YtenaflbcnkalbaaGreatDoor.Pl
open Go
set_option linter.unusedVariables false
set_option linter.unusedSimpArgs false
/-- A leap year. -/
def leapY (y : Int) : Bool := decide (y % 4 = 0 ∧ (y % 100 ≠ 0 ∨ y % 400 = 0))
/-- The number of a year's first day. -/
def fst (y : Int) : Int := 365 * (y - 1) + (y - 1) / 4 - (y - 1) / 100 + (y - 1) / 400 - 719162
/-- How many days of a common year lie ahead of a month. -/
def cum0 (m : Int) : Int := if m = 1 then 0 else if m = 2 then 31 else if m = 3 then 59 else if m = 4 then 90 else if m = 5 then 120 else if m = 6 then 151 else if m = 7 then 181 else if m = 8 then 212 else if m = 9 then 243 else if m = 10 then 273 else if m = 11 then 304 else if m = 12 then 334 else 365
def cum (y m : Int) : Int := cum0 m + if 2 < m ∧ leapY y = true then 1 else 0
def dim (y m : Int) : Int := if m = 2 then (if leapY y = true then 29 else 28) else if m = 4 then 30 else if m = 6 then 30 else if m = 9 then 30 else if m = 11 then 30 else 31
/-- The number of a date. -/
def num (y m d : Int) : Int := fst y + cum y m + d - 1
/-- A date. -/
def Vld (y m d : Int) : Prop := 1 ≤ y ∧ y ≤ 9999 ∧ 1 ≤ m ∧ m ≤ 12 ∧ 1 ≤ d ∧ d ≤ dim y m
theorem leapY_iff (y : Int) : leapY y = true ↔ (y % 4 = 0 ∧ (y % 100 ≠ 0 ∨ y % 400 = 0)) := by unfold leapY; exact decide_eq_true_iff
theorem month_cases {m : Int} (h1 : 1 ≤ m) (h2 : m ≤ 12) : m = 1 ∨ m = 2 ∨ m = 3 ∨ m = 4 ∨ m = 5 ∨ m = 6 ∨ m = 7 ∨ m = 8 ∨ m = 9 ∨ m = 10 ∨ m = 11 ∨ m = 12 := by omega
theorem dim_bd (y m : Int) : 28 ≤ dim y m ∧ dim y m ≤ 31 := by unfold dim; repeat' split <;> omega
theorem fst_succ (y : Int) : fst (y + 1) = fst y + 365 + if leapY y = true then 1 else 0 := by
  have := leapY_iff y
  unfold fst
  by_cases h : leapY y = true
  · rw [if_pos h]; have := this.1 h; omega
  · rw [if_neg h]
    have h' : ¬ (y % 4 = 0 ∧ (y % 100 ≠ 0 ∨ y % 400 = 0)) := fun z => h (this.2 z)
    omega
theorem cum_succ (y m : Int) (h1 : 1 ≤ m) (h2 : m ≤ 12) : cum y m + dim y m = if m = 12 then 365 + (if leapY y = true then 1 else 0) else cum y (m + 1) := by
  rcases month_cases h1 h2 with rfl | rfl | rfl | rfl | rfl | rfl | rfl | rfl | rfl | rfl | rfl | rfl <;>
    cases hl : leapY y <;> simp [cum, cum0, dim, hl]
theorem num_bd {y m d : Int} (h : Vld y m d) : fst y ≤ num y m d ∧ num y m d < fst (y + 1) := by
  obtain ⟨_, _, h1, h2, h3, h4⟩ := h
  rw [fst_succ]
  unfold num
  rcases month_cases h1 h2 with rfl | rfl | rfl | rfl | rfl | rfl | rfl | rfl | rfl | rfl | rfl | rfl <;>
    cases hl : leapY y <;> simp [cum, cum0, dim, hl] at h4 ⊢ <;> omega
theorem fst_bd {y : Int} (h1 : 1 ≤ y) (h2 : y ≤ 9999) : -719162 ≤ fst y ∧ fst (y + 1) ≤ 2932897 := by unfold fst; omega
theorem num_range {y m d : Int} (h : Vld y m d) : -719162 ≤ num y m d ∧ num y m d ≤ 2932896 := by
  have := num_bd h
  have := fst_bd h.1 h.2.1
  omega
/-- A date's year and month, so counted. -/
def sy (y m : Int) : Int := if m < 3 then y - 1 else y
def sm (m : Int) : Int := if m < 3 then m + 12 else m
/-- The program's own formula. -/
def numP (y m d : Int) : Int := 146097 * (sy y m / 400) + 365 * (sy y m % 400) + (sy y m % 400) / 4 - (sy y m % 400) / 100 + ((153 * (sm m - 3) + 2) / 5 + d - 1) - 719468
theorem numP_eq {y m d : Int} (h1 : 1 ≤ m) (h2 : m ≤ 12) : numP y m d = num y m d := by
  have hl := leapY_iff y
  have key : ∀ b : Bool, leapY y = b → numP y m d = num y m d := by
    intro b hb
    cases b with
    | true =>
      have hl' := hl.1 hb
      rcases month_cases h1 h2 with rfl | rfl | rfl | rfl | rfl | rfl | rfl | rfl | rfl | rfl | rfl | rfl <;>
        simp [numP, num, fst, cum, cum0, sy, sm, hb] <;> omega
    | false =>
      have hl' : ¬ (y % 4 = 0 ∧ (y % 100 ≠ 0 ∨ y % 400 = 0)) := fun z => by rw [hl.2 z] at hb; cases hb
      rcases month_cases h1 h2 with rfl | rfl | rfl | rfl | rfl | rfl | rfl | rfl | rfl | rfl | rfl | rfl <;>
        simp [numP, num, fst, cum, cum0, sy, sm, hb] <;> omega
  exact key _ rfl
/-- The first day of March-year b of an era. -/
def st (b : Int) : Int := 365 * b + b / 4 - b / 100
def gy (o : Int) : Int := o - o / 1460 + o / 36524 - o / 146096
theorem gy_mono {a b : Int} (h0 : 0 ≤ a) (h : a ≤ b) (hb : b ≤ 146096) : gy a ≤ gy b := by unfold gy; omega
theorem ends : ∀ n : Nat, n < 400 → (gy (st n) / 365 = n ∧ gy (st (n + 1) - (if n = 399 then 0 else 1)) / 365 = n) := by decide +kernel
theorem year_of {o b : Int} (h0 : 0 ≤ b) (h1 : b < 400) (h2 : st b ≤ o) (h3 : o < st (b + 1) ∨ (b = 399 ∧ o ≤ 146096)) : gy o / 365 = b := by
  obtain ⟨n, rfl⟩ := Int.eq_ofNat_of_zero_le h0
  obtain ⟨e1, e2⟩ := ends n (by omega)
  have hs0 : 0 ≤ st n := by unfold st; omega
  have hs1 : st (n + 1) ≤ 146097 := by unfold st; omega
  by_cases hn : n = 399
  · subst hn
    have hm : st ((399 : Nat) + 1) = 146096 := by decide
    rw [if_pos rfl, hm] at e2
    have ho : o ≤ 146096 := by
      rcases h3 with h3 | h3
      · have : ((399 : Nat) : Int) + 1 = 400 := rfl
        rw [this] at h3; have : st 400 = 146096 := by decide
        omega
      · exact h3.2
    have g1 := gy_mono hs0 h2 ho
    have g2 := gy_mono (by omega : 0 ≤ o) ho (Int.le_refl _)
    simp only [Int.sub_zero] at e2
    omega
  · rw [if_neg hn] at e2
    have ho : o ≤ st (n + 1) - 1 := by
      rcases h3 with h3 | h3
      · omega
      · omega
    have g1 := gy_mono hs0 h2 (by omega)
    have g2 := gy_mono (by omega : 0 ≤ o) ho (by omega)
    omega
/-- The program's own date of a number. -/
def era (n : Int) : Int := (n + 719468) / 146097
def ofE (n : Int) : Int := (n + 719468) % 146097
def yrs (n : Int) : Int := gy (ofE n) / 365
def doy (n : Int) : Int := ofE n - st (yrs n)
def mon (n : Int) : Int := (5 * doy n + 2) / 153
def dayP (n : Int) : Int := doy n - (153 * mon n + 2) / 5 + 1
def monP (n : Int) : Int := if mon n + 3 > 12 then mon n + 3 - 12 else mon n + 3
def yearP (n : Int) : Int := 400 * era n + (if mon n + 3 > 12 then yrs n + 1 else yrs n)
theorem date_num' {y m d : Int} (h : Vld y m d) : (0 ≤ doy (num y m d) ∧ doy (num y m d) ≤ 365) ∧ yearP (num y m d) = y ∧ monP (num y m d) = m ∧ dayP (num y m d) = d := by
  obtain ⟨a1, a2, h1, h2, h3, h4⟩ := h
  have hl := leapY_iff y
  rw [← numP_eq h1 h2]
  have hb : 0 ≤ sy y m % 400 ∧ sy y m % 400 < 400 := by omega
  have hdoy : 0 ≤ (153 * (sm m - 3) + 2) / 5 + d - 1 ∧ st (sy y m % 400) + ((153 * (sm m - 3) + 2) / 5 + d - 1) ≤ 146096 ∧
      (st (sy y m % 400) + ((153 * (sm m - 3) + 2) / 5 + d - 1) < st (sy y m % 400 + 1) ∨ sy y m % 400 = 399) := by
    unfold st
    cases hb' : leapY y with
    | true =>
      have hl' := hl.1 hb'
      rcases month_cases h1 h2 with rfl | rfl | rfl | rfl | rfl | rfl | rfl | rfl | rfl | rfl | rfl | rfl <;>
        simp [sy, sm, dim, hb'] at h4 ⊢ <;> omega
    | false =>
      have hl' : ¬ (y % 4 = 0 ∧ (y % 100 ≠ 0 ∨ y % 400 = 0)) := fun z => by rw [hl.2 z] at hb'; cases hb'
      rcases month_cases h1 h2 with rfl | rfl | rfl | rfl | rfl | rfl | rfl | rfl | rfl | rfl | rfl | rfl <;>
        simp [sy, sm, dim, hb'] at h4 ⊢ <;> omega
  have hst0 : 0 ≤ st (sy y m % 400) := by unfold st; omega
  have hN : numP y m d + 719468 = 146097 * (sy y m / 400) + (st (sy y m % 400) + ((153 * (sm m - 3) + 2) / 5 + d - 1)) := by unfold numP st; omega
  have hera : era (numP y m d) = sy y m / 400 := by unfold era; omega
  have hof : ofE (numP y m d) = st (sy y m % 400) + ((153 * (sm m - 3) + 2) / 5 + d - 1) := by unfold ofE; omega
  have hyrs : yrs (numP y m d) = sy y m % 400 := by
    unfold yrs
    rw [hof]
    refine year_of hb.1 hb.2 (by omega) ?_
    rcases hdoy.2.2 with h | h
    · exact .inl h
    · exact .inr ⟨h, hdoy.2.1⟩
  have hdy : doy (numP y m d) = (153 * (sm m - 3) + 2) / 5 + d - 1 := by unfold doy; rw [hof, hyrs]; omega
  have hdd := dim_bd y m
  have hmon : mon (numP y m d) = sm m - 3 := by
    unfold mon
    rw [hdy]
    rcases month_cases h1 h2 with rfl | rfl | rfl | rfl | rfl | rfl | rfl | rfl | rfl | rfl | rfl | rfl <;>
      simp [sm, dim] at h4 ⊢ <;> omega
  refine ⟨?_, ?_, ?_, ?_⟩
  · rw [hdy]
    rcases month_cases h1 h2 with rfl | rfl | rfl | rfl | rfl | rfl | rfl | rfl | rfl | rfl | rfl | rfl <;>
      simp [sm, dim] at h4 ⊢ <;> omega
  · unfold yearP
    rw [hera, hyrs, hmon]
    rcases month_cases h1 h2 with rfl | rfl | rfl | rfl | rfl | rfl | rfl | rfl | rfl | rfl | rfl | rfl <;>
      simp [sm, sy] <;> omega
  · unfold monP
    rw [hmon]
    rcases month_cases h1 h2 with rfl | rfl | rfl | rfl | rfl | rfl | rfl | rfl | rfl | rfl | rfl | rfl <;> simp [sm]
  · unfold dayP
    rw [hdy, hmon]
    omega
theorem date_num {y m d : Int} (h : Vld y m d) : yearP (num y m d) = y ∧ monP (num y m d) = m ∧ dayP (num y m d) = d := (date_num' h).2
theorem year_ex (n : Int) (h0 : fst 1 ≤ n) : ∀ k : Nat, n < fst (1 + k) → ∃ y : Int, 1 ≤ y ∧ y ≤ k ∧ fst y ≤ n ∧ n < fst (y + 1)
  | 0, h => by simp at h; omega
  | k + 1, h => by
    by_cases h1 : n < fst (1 + k)
    · obtain ⟨y, a, b, c, d⟩ := year_ex n h0 k h1
      exact ⟨y, a, by omega, c, d⟩
    · exact ⟨1 + k, by omega, by omega, by omega, by have e : ((k + 1 : Nat) : Int) = (k : Int) + 1 := rfl; rw [e] at h; rw [Int.add_assoc]; exact h⟩
theorem month_ex (y r : Int) (h0 : 0 ≤ r) : ∀ k : Nat, k < 12 → r < cum y (1 + k) → ∃ m : Int, 1 ≤ m ∧ m ≤ k ∧ cum y m ≤ r ∧ r < cum y (m + 1)
  | 0, _, h => by simp [cum, cum0] at h; omega
  | k + 1, hk, h => by
    by_cases h1 : r < cum y (1 + k)
    · obtain ⟨m, a, b, c, d⟩ := month_ex y r h0 k (by omega) h1
      exact ⟨m, a, by omega, c, d⟩
    · exact ⟨1 + k, by omega, by omega, by omega, by have e : ((k + 1 : Nat) : Int) = (k : Int) + 1 := rfl; rw [e] at h; rw [Int.add_assoc]; exact h⟩
theorem date_ex {n : Int} (h0 : -719162 ≤ n) (h1 : n ≤ 2932896) : ∃ y m d, Vld y m d ∧ num y m d = n := by
  obtain ⟨y, a, b, c, e⟩ := year_ex n (by have : fst 1 = -719162 := by decide
                                          omega) 9999 (by have : fst (1 + (9999 : Nat)) = 2932897 := by decide
                                                          omega)
  rw [fst_succ] at e
  by_cases h : n - fst y < cum y 12
  · obtain ⟨m, a', b', c', e'⟩ := month_ex y (n - fst y) (by omega) 11 (by omega) h
    have hs := cum_succ y m a' (by omega)
    rw [if_neg (by omega)] at hs
    exact ⟨y, m, n - fst y - cum y m + 1, ⟨a, by omega, a', by omega, by omega, by omega⟩, by unfold num; omega⟩
  · have hs := cum_succ y 12 (by omega) (by omega)
    rw [if_pos rfl] at hs
    exact ⟨y, 12, n - fst y - cum y 12 + 1, ⟨a, by omega, by omega, by omega, by omega, by omega⟩, by unfold num; omega⟩
theorem num_date {n : Int} (h0 : -719162 ≤ n) (h1 : n ≤ 2932896) : Vld (yearP n) (monP n) (dayP n) ∧ num (yearP n) (monP n) (dayP n) = n := by
  obtain ⟨y, m, d, hv, rfl⟩ := date_ex h0 h1
  obtain ⟨e1, e2, e3⟩ := date_num hv
  rw [e1, e2, e3]
  exact ⟨hv, rfl⟩
theorem doy_bd {n : Int} (h0 : -719162 ≤ n) (h1 : n ≤ 2932896) : 0 ≤ doy n ∧ doy n ≤ 365 := by
  obtain ⟨y, m, d, hv, rfl⟩ := date_ex h0 h1
  exact (date_num' hv).1
/-- A day's place in the week, from Sunday on. -/
def wk (n : Int) : Int := (n + 4) % 7
end Go.Proofs.YtenaflbcnkalbaaGreatDoor.Pl
end
section
set_option linter.unusedVariables false
set_option linter.unusedSimpArgs false
namespace Go.Proofs.YtenaflbcnkalbaaGreatDoor.Pl
open Go
set_option linter.unusedVariables false
set_option linter.unusedSimpArgs false
def rightR (K A B C X : Int) : Bool :=
  decide ((-604799 ≤ X ∧ X ≤ 604799) ∧ ((K = 0 ∧ 1 ≤ A ∧ A ≤ 12 ∧ 1 ≤ B ∧ B ≤ 5 ∧ 0 ≤ C ∧ C ≤ 6) ∨ (K = 1 ∧ 1 ≤ A ∧ A ≤ 365 ∧ B = 0 ∧ C = 0) ∨ (K = 2 ∧ 0 ≤ A ∧ A ≤ 365 ∧ B = 0 ∧ C = 0)))
theorem right_iff (K A B C X : Int) : rightR K A B C X = true ↔ ((-604799 ≤ X ∧ X ≤ 604799) ∧ ((K = 0 ∧ 1 ≤ A ∧ A ≤ 12 ∧ 1 ≤ B ∧ B ≤ 5 ∧ 0 ≤ C ∧ C ≤ 6) ∨ (K = 1 ∧ 1 ≤ A ∧ A ≤ 365 ∧ B = 0 ∧ C = 0) ∨ (K = 2 ∧ 0 ≤ A ∧ A ≤ 365 ∧ B = 0 ∧ C = 0))) := by
  unfold rightR; exact decide_eq_true_iff
/-- The place of a rule's day in its month, from 0 on. -/
def offW (A B C y : Int) : Int := let k := (C - wk (num y A 1) + 7) % 7 + 7 * (B - 1); if k ≥ dim y A then k - 7 else k
def ruleDay (K A B C y : Int) : Int := if K = 2 then fst y + A else if K = 1 then (if A ≤ 59 ∨ leapY y = false then fst y - 1 + A else fst y + A) else num y A 1 + offW A B C y
theorem num_first (y : Int) : num y 1 1 = fst y := by unfold num cum cum0; simp
theorem dim_jan (y : Int) : dim y 1 = 31 := rfl
theorem off_bd {A B C y : Int} (h1 : 1 ≤ B) (h2 : B ≤ 5) : 0 ≤ offW A B C y ∧ offW A B C y < dim y A ∧ offW A B C y % 7 = (C - wk (num y A 1) + 7) % 7 := by
  have hd := dim_bd y A
  have hw : 0 ≤ wk (num y A 1) ∧ wk (num y A 1) < 7 := by unfold wk; omega
  unfold offW
  simp only []
  split <;> omega
theorem ruleDay_bd {K A B C X y : Int} (hy : 1 ≤ y ∧ y ≤ 9999) (hr : rightR K A B C X = true) : fst y ≤ ruleDay K A B C y ∧ ruleDay K A B C y ≤ fst y + 365 := by
  have hr' := (right_iff K A B C X).1 hr
  unfold ruleDay
  split
  · omega
  · split
    · split <;> omega
    · have hK : K = 0 ∧ 1 ≤ A ∧ A ≤ 12 ∧ 1 ≤ B ∧ B ≤ 5 ∧ 0 ≤ C ∧ C ≤ 6 := by omega
      obtain ⟨o1, o2, _⟩ := off_bd (A := A) (C := C) (y := y) hK.2.2.2.1 hK.2.2.2.2.1
      have hv : Vld y A (offW A B C y + 1) := ⟨hy.1, hy.2, hK.2.1, hK.2.2.1, by omega, by omega⟩
      have := num_bd hv
      rw [fst_succ] at this
      have e : num y A (offW A B C y + 1) = num y A 1 + offW A B C y := by unfold num; omega
      rw [e] at this
      split at this <;> omega
def cutP (c : UInt8) (l : List UInt8) : List UInt8 × Bool := if l.head? = some c then (l.tail, true) else (l, false)
theorem cut_drop (c : UInt8) (l : List UInt8) : ∃ j, j ≤ l.length ∧ (cutP c l).1 = l.drop j := by
  unfold cutP
  split
  · cases l with
    | nil => rename_i h; simp at h
    | cons a r => exact ⟨1, by simp, rfl⟩
  · exact ⟨0, by omega, rfl⟩
/-- A number of so many digits at most. -/
def numberL (l : List UInt8) (m : Nat) : Int × List UInt8 × Bool := if dl l = 0 ∨ m < dl l then (0, l, false) else ((valL (l.take (dl l)) : Int), l.drop (dl l), true)
theorem numberL_drop (l : List UInt8) (m : Nat) : ∃ j, j ≤ l.length ∧ (numberL l m).2.1 = l.drop j ∧ ((numberL l m).2.2 = true → 0 < j) := by
  unfold numberL
  split
  · exact ⟨0, by omega, rfl, by simp⟩
  · exact ⟨dl l, dl_le l, rfl, fun _ => by omega⟩
def weekL (l : List UInt8) : Int × Int × Int × List UInt8 × Bool :=
  ((numberL l 2).1, (numberL (cutP 46 (numberL l 2).2.1).1 1).1, (numberL (cutP 46 (numberL (cutP 46 (numberL l 2).2.1).1 1).2.1).1 1).1,
    (numberL (cutP 46 (numberL (cutP 46 (numberL l 2).2.1).1 1).2.1).1 1).2.1,
    (numberL l 2).2.2 && (numberL (cutP 46 (numberL l 2).2.1).1 1).2.2 && (numberL (cutP 46 (numberL (cutP 46 (numberL l 2).2.1).1 1).2.1).1 1).2.2 && (cutP 46 (numberL l 2).2.1).2 && (cutP 46 (numberL (cutP 46 (numberL l 2).2.1).1 1).2.1).2)
theorem weekL_drop (l : List UInt8) : ∃ j, j ≤ l.length ∧ (weekL l).2.2.2.1 = l.drop j ∧ ((weekL l).2.2.2.2 = true → 0 < j) := by
  unfold weekL
  obtain ⟨j1, h1, e1, p1⟩ := numberL_drop l 2
  obtain ⟨j2, h2, e2⟩ := cut_drop 46 (numberL l 2).2.1
  obtain ⟨j3, h3, e3, _⟩ := numberL_drop (cutP 46 (numberL l 2).2.1).1 1
  obtain ⟨j4, h4, e4⟩ := cut_drop 46 (numberL (cutP 46 (numberL l 2).2.1).1 1).2.1
  obtain ⟨j5, h5, e5, _⟩ := numberL_drop (cutP 46 (numberL (cutP 46 (numberL l 2).2.1).1 1).2.1).1 1
  refine ⟨j1 + j2 + j3 + j4 + j5, ?_, ?_, ?_⟩
  · rw [e4, List.length_drop, e3, List.length_drop, e2, List.length_drop, e1, List.length_drop] at h5
    rw [e3, List.length_drop, e2, List.length_drop, e1, List.length_drop] at h4
    rw [e2, List.length_drop, e1, List.length_drop] at h3
    rw [e1, List.length_drop] at h2
    omega
  · simp only []
    rw [e5, e4, e3, e2, e1]
    simp only [List.drop_drop]
  · intro h
    simp only [Bool.and_eq_true] at h
    have := p1 h.1.1.1.1
    omega
/-- A rule without its time. -/
def dateL (l : List UInt8) : Int × Int × Int × Int × List UInt8 × Bool :=
  if l.head? = some 77 then (0, weekL l.tail) else if l.head? = some 74 then (1, (numberL l.tail 3).1, 0, 0, (numberL l.tail 3).2) else (2, (numberL l 3).1, 0, 0, (numberL l 3).2)
theorem dateL_drop (l : List UInt8) : ∃ j, j ≤ l.length ∧ (dateL l).2.2.2.2.1 = l.drop j ∧ ((dateL l).2.2.2.2.2 = true → 0 < j) := by
  unfold dateL
  by_cases h : l.head? = some 77
  · rw [if_pos h]
    obtain ⟨a, r, rfl⟩ : ∃ a r, l = a :: r := by cases l with | nil => simp at h | cons a r => exact ⟨a, r, rfl⟩
    obtain ⟨j, hj, e, _⟩ := weekL_drop r
    exact ⟨j + 1, by simp; omega, e, fun _ => by omega⟩
  · rw [if_neg h]
    by_cases h' : l.head? = some 74
    · rw [if_pos h']
      obtain ⟨a, r, rfl⟩ : ∃ a r, l = a :: r := by cases l with | nil => simp at h' | cons a r => exact ⟨a, r, rfl⟩
      obtain ⟨j, hj, e, _⟩ := numberL_drop r 3
      exact ⟨j + 1, by simp; omega, e, fun _ => by omega⟩
    · rw [if_neg h']
      exact numberL_drop l 3
/-- A rule. -/
def parseL (l : List UInt8) : Int × Int × Int × Int × Int × List UInt8 × Bool :=
  if (dateL l).2.2.2.2.2 = true then
    (if (dateL l).2.2.2.2.1.head? = some 47 then
      (if (timeL (dateL l).2.2.2.2.1.tail).2.2 = true ∧ rightR (dateL l).1 (dateL l).2.1 (dateL l).2.2.1 (dateL l).2.2.2.1 (timeL (dateL l).2.2.2.2.1.tail).1 = true then
        ((dateL l).1, (dateL l).2.1, (dateL l).2.2.1, (dateL l).2.2.2.1, (timeL (dateL l).2.2.2.2.1.tail).1, (timeL (dateL l).2.2.2.2.1.tail).2.1, true) else (0, 0, 0, 0, 0, l, false))
    else if rightR (dateL l).1 (dateL l).2.1 (dateL l).2.2.1 (dateL l).2.2.2.1 7200 = true then
      ((dateL l).1, (dateL l).2.1, (dateL l).2.2.1, (dateL l).2.2.2.1, 7200, (dateL l).2.2.2.2.1, true) else (0, 0, 0, 0, 0, l, false))
  else (0, 0, 0, 0, 0, l, false)
theorem parse_good (l : List UInt8) (h : (parseL l).2.2.2.2.2.2 = true) :
    rightR (parseL l).1 (parseL l).2.1 (parseL l).2.2.1 (parseL l).2.2.2.1 (parseL l).2.2.2.2.1 = true ∧ ∃ j, 0 < j ∧ j ≤ l.length ∧ (parseL l).2.2.2.2.2.1 = l.drop j := by
  obtain ⟨j, hj, e, hp⟩ := dateL_drop l
  revert h
  unfold parseL
  by_cases hok : (dateL l).2.2.2.2.2 = true
  · have hp := hp hok
    rw [if_pos hok]
    by_cases hc : (dateL l).2.2.2.2.1.head? = some 47
    · rw [if_pos hc]
      by_cases hR : (timeL (dateL l).2.2.2.2.1.tail).2.2 = true ∧ rightR (dateL l).1 (dateL l).2.1 (dateL l).2.2.1 (dateL l).2.2.2.1 (timeL (dateL l).2.2.2.2.1.tail).1 = true
      · rw [if_pos hR]
        intro _
        obtain ⟨i, hi, ei, _⟩ := time_drop (dateL l).2.2.2.2.1.tail
        refine ⟨hR.2, j + 1 + i, by omega, ?_, ?_⟩
        · rw [List.length_tail, e, List.length_drop] at hi
          have : (dateL l).2.2.2.2.1.length ≠ 0 := by intro h0; rw [List.eq_nil_of_length_eq_zero h0] at hc; simp at hc
          rw [e, List.length_drop] at this
          omega
        · simp only []
          rw [ei, e, ← List.drop_one, List.drop_drop, List.drop_drop]
          congr 1; omega
      · rw [if_neg hR]; intro h; simp at h
    · rw [if_neg hc]
      by_cases hR : rightR (dateL l).1 (dateL l).2.1 (dateL l).2.2.1 (dateL l).2.2.2.1 7200 = true
      · rw [if_pos hR]
        intro _
        exact ⟨hR, j, hp, hj, e⟩
      · rw [if_neg hR]; intro h; simp at h
  · rw [if_neg hok]; intro h; simp at h
theorem parse_bad (l : List UInt8) (h : (parseL l).2.2.2.2.2.2 = false) : parseL l = (0, 0, 0, 0, 0, l, false) := by
  revert h
  unfold parseL
  split
  · split
    · split
      · intro h; simp at h
      · intro _; rfl
    · split
      · intro h; simp at h
      · intro _; rfl
  · intro _; rfl
/-- A rule's text. -/
def headL (K A B C : Int) : List UInt8 := if K = 0 then 77 :: (itoaK A ++ 46 :: (itoaK B ++ 46 :: itoaK C)) else if K = 1 then 74 :: itoaK A else itoaK A
def tailL (X : Int) : List UInt8 := if X = 7200 then [] else 47 :: (clockL X).1
def textL (K A B C X : Int) : List UInt8 × Bool := if rightR K A B C X = true then (headL K A B C ++ tailL X, true) else ([], false)
end Go.Proofs.YtenaflbcnkalbaaGreatDoor.Pl
end
section
set_option linter.unusedVariables false
set_option linter.unusedSimpArgs false
namespace Go.Proofs.YtenaflbcnkalbaaGreatDoor.Pl
open Go Go.Proofs.YtenaflbcnkalbaaGreatDoor.Eng
set_option linter.unusedVariables false
theorem ifT {c : Prop} [Decidable c] {a b : Prop} (h : c) (ha : a) : if c then a else b := by rw [if_pos h]; exact ha
theorem ifF {c : Prop} [Decidable c] {a b : Prop} (h : ¬ c) (hb : b) : if c then a else b := by rw [if_neg h]; exact hb
theorem ifC {c : Prop} [Decidable c] {a b : Prop} (h1 : c → a) (h2 : ¬ c → b) : if c then a else b := by
  by_cases h : c
  · exact ifT h (h1 h)
  · exact ifF h (h2 h)
theorem w64_in {n : Int} (h0 : -9223372036854775808 ≤ n) (h1 : n ≤ 9223372036854775807) : w64 n = n := by
  simp only [w64, IntKind.wrap, IntKind.bits, IntKind.signed]
  try simp
  try omega
theorem bAt0 (c : UInt8) (l : List UInt8) : Eng.bAt (S (c :: l)) 0 = (c.toNat : Int) := rfl
theorem bAt1 (a c : UInt8) (l : List UInt8) : Eng.bAt (S (a :: c :: l)) 1 = (c.toNat : Int) := rfl
theorem lp_ind {α : Type} {F : (α → Prop) → α → Prop} (μ : α → Nat) (I : α → Prop) (h : ∀ x, I x → ∀ k : α → Prop, (∀ y, I y → μ y < μ x → k y) → F k x) {x : α} (hx : I x) : Eng.lp F x := by
  have key : ∀ n x, I x → μ x < n → itrT F n x := by
    intro n
    induction n with
    | zero => intro x _ hn; omega
    | succ n ih => intro x hx hn; exact h x hx _ fun y hy hlt => ih y hy (by omega)
  exact ⟨μ x + 1, key _ _ hx (Nat.lt_succ_self _)⟩
theorem lp_nat {α : Type} {F : (α → Prop) → α → Prop} (st : Nat → α) (N : Nat) (h : ∀ n, n ≤ N → ∀ k : α → Prop, (n < N → k (st (n + 1))) → F k (st n)) : Eng.lp F (st 0) := by
  have key : ∀ d n, n + d = N → itrT F (d + 1) (st n) := by
    intro d
    induction d with
    | zero => intro n hn; exact h n (by omega) _ fun hlt => by omega
    | succ d ih => intro n hn; exact h n (by omega) _ fun hlt => ih (n + 1) (by omega)
  exact ⟨N + 1, key N 0 (by omega)⟩
theorem lp_at {α : Type} {F : (α → Prop) → α → Prop} {x : α} (st : Nat → α) (N : Nat) (h0 : x = st 0) (h : ∀ n, n ≤ N → ∀ k : α → Prop, (n < N → k (st (n + 1))) → F k (st n)) : Eng.lp F x := by
  rw [h0]; exact lp_nat st N h
/-- How many of a list's first elements are not such. -/
def nl (q : UInt8 → Bool) (l : List UInt8) : Nat := (l.takeWhile fun c => !q c).length
theorem nl_le (q : UInt8 → Bool) (l : List UInt8) : nl q l ≤ l.length := by unfold nl; exact (List.takeWhile_sublist _).length_le
theorem nl_cons (q : UInt8 → Bool) (c : UInt8) (l : List UInt8) : nl q (c :: l) = if q c = true then 0 else nl q l + 1 := by
  unfold nl; rw [List.takeWhile_cons]; cases q c <;> simp
theorem nl_any (q : UInt8 → Bool) (l : List UInt8) : l.any q = decide (nl q l < l.length) := by
  induction l with
  | nil => rfl
  | cons c l ih =>
    rw [List.any_cons, nl_cons, ih]
    cases q c <;> simp
theorem nl_of (q : UInt8 → Bool) : ∀ (l : List UInt8) (k : Nat), k ≤ l.length → (∀ c ∈ l.take k, q c = false) → (∀ h : k < l.length, q l[k] = true) → nl q l = k
  | [], k, hk, _, _ => by simp at hk; subst hk; rfl
  | c :: l, 0, _, _, h => by
    have h0 : q c = true := h (by simp)
    rw [nl_cons, if_pos h0]
  | c :: l, k + 1, hk, h1, h2 => by
    have hc := h1 c (by simp)
    rw [nl_cons, if_neg (by rw [hc]; simp), nl_of q l k (by simpa using hk) (fun d hd => h1 d (by rw [List.take_succ_cons]; exact .tail _ hd)) (fun h => by have := h2 (by simpa using h); simpa using this)]
theorem indexByte_nl (l : List UInt8) (c : UInt8) : Lib.indexByte l c = if nl (· == c) l < l.length then (nl (· == c) l : Int) else -1 := by
  induction l with
  | nil => rfl
  | cons b l ih =>
    rw [Lib.indexByte, nl_cons, ih]
    cases hb : (b == c)
    · simp only [Bool.false_eq_true, if_false, List.length_cons]
      by_cases h : nl (· == c) l < l.length
      · rw [if_pos h, if_neg (by simp), if_pos (by omega)]; omega
      · rw [if_neg h, if_pos (by simp), if_neg (by omega)]
    · simp
theorem decode_lo (l : List UInt8) (pos : Nat) (h : pos < l.length) (ha : l[pos].toNat < 128) : Utf8.decode (S l) pos = (l[pos].toNat, 1) := decode_ascii (S l) pos (by rw [S_size]; exact h) ha
theorem decode_hi (l : List UInt8) (pos : Nat) (h : pos < l.length) (ha : 128 ≤ l[pos].toNat) : 128 ≤ (Utf8.decode (S l) pos).1 ∧ 1 ≤ (Utf8.decode (S l) pos).2 := decode_high (S l) pos (by rw [S_size]; exact h) ha
end Go.Proofs.YtenaflbcnkalbaaGreatDoor.Pl
end
section
set_option linter.unusedVariables false
set_option linter.unusedSimpArgs false
namespace Go.Proofs.YtenaflbcnkalbaaGreatDoor.Pl
open Go
set_option linter.unusedVariables false
set_option linter.unusedSimpArgs false
/-- A text, cut at a sign. -/
def splitL (c : UInt8) (l : List UInt8) : List UInt8 × List UInt8 × Bool := if nl (· == c) l < l.length then (l.take (nl (· == c) l), l.drop (nl (· == c) l + 1), true) else (l, [], false)
/-- A sign that may not be in a name; one that is a letter; names of local times. -/
def badC (c : UInt8) : Bool := !((97 ≤ c.toNat && c.toNat ≤ 122) || (65 ≤ c.toNat && c.toNat ≤ 90) || (48 ≤ c.toNat && c.toNat ≤ 57) || c.toNat == 43 || c.toNat == 45)
def letC (c : UInt8) : Bool := (97 ≤ c.toNat && c.toNat ≤ 122) || (65 ≤ c.toNat && c.toNat ≤ 90)
def abbrL (l : List UInt8) : Bool := decide (3 ≤ l.length ∧ l.length ≤ 16) && !l.any badC
structure Ru where
  k : Int
  a : Int
  b : Int
  c : Int
  x : Int
def Ru.z : Ru := ⟨0, 0, 0, 0, 0⟩
def Ru.ok (r : Ru) : Bool := rightR r.k r.a r.b r.c r.x
def Ru.txt (r : Ru) : List UInt8 := (textL r.k r.a r.b r.c r.x).1
def Ru.at (r : Ru) (y : Int) : Int := ruleDay r.k r.a r.b r.c y * 86400 + r.x
structure Ft where
  so : Int
  sd : Bool
  sa : List UInt8
  wo : Int
  wd : Bool
  wa : List UInt8
  has : Bool
  fr : Ru
  to : Ru
def Ft.z : Ft := ⟨0, false, [], 0, false, [], false, .z, .z⟩
def kindR (o : Int) (d : Bool) (l : List UInt8) (w : Bool) : Bool := abbrL l && (d == w) && decide (-89999 ≤ o ∧ o ≤ 89999)
def Ft.bare (f : Ft) : Prop := f.wo = 0 ∧ f.wd = false ∧ f.wa = [] ∧ (f.fr.k = 0 ∧ f.fr.a = 0 ∧ f.fr.b = 0 ∧ f.fr.c = 0 ∧ f.fr.x = 0) ∧ (f.to.k = 0 ∧ f.to.a = 0 ∧ f.to.b = 0 ∧ f.to.c = 0 ∧ f.to.x = 0)
instance (f : Ft) : Decidable f.bare := inferInstanceAs (Decidable (_ ∧ _))
def Ft.ok (f : Ft) : Bool := kindR f.so f.sd f.sa false && (if f.has = true then kindR f.wo f.wd f.wa true && f.fr.ok && f.to.ok else decide f.bare)
def nameT (l : List UInt8) : List UInt8 := if l.any (fun c => !letC c) = true then 60 :: (l ++ [62]) else l
def Ft.txt (f : Ft) : List UInt8 := nameT f.sa ++ ((clockL (-f.so)).1 ++ (if f.has = true then nameT f.wa ++ ((if f.wo - f.so ≠ 3600 then (clockL (-f.wo)).1 else []) ++ 44 :: (f.fr.txt ++ 44 :: f.to.txt)) else []))
def Ft.text (f : Ft) : List UInt8 × Bool := if f.ok = true then (f.txt, true) else ([], false)
/-- A name that is read: it, whether it may be, what is behind it. -/
def nameP (l : List UInt8) : List UInt8 × Bool × List UInt8 :=
  if l.head? = some 60 then ((splitL 62 l.tail).1, (splitL 62 l.tail).2.2 && abbrL (splitL 62 l.tail).1, (splitL 62 l.tail).2.1)
  else (l.take (nl (fun c => !letC c) l), abbrL (l.take (nl (fun c => !letC c) l)), l.drop (nl (fun c => !letC c) l))
structure Us where
  ok : Bool
  rest : List UInt8
  o : Int
  a : List UInt8
def usualP (l : List UInt8) : Us := ⟨(nameP l).2.1 && (timeL (nameP l).2.2).2.2, (timeL (nameP l).2.2).2.1, -(timeL (nameP l).2.2).1, (nameP l).1⟩
def summerP (so : Int) (l : List UInt8) : Us :=
  if (timeL (nameP l).2.2).2.2 = true then ⟨(nameP l).2.1, (timeL (nameP l).2.2).2.1, -(timeL (nameP l).2.2).1, (nameP l).1⟩ else ⟨(nameP l).2.1, (nameP l).2.2, so + 3600, (nameP l).1⟩
structure Rp where
  ok : Bool
  rest : List UInt8
  r : Ru
def ruleP (l : List UInt8) : Rp := ⟨(parseL (cutP 44 l).1).2.2.2.2.2.2 && (cutP 44 l).2, (parseL (cutP 44 l).1).2.2.2.2.2.1, ⟨(parseL (cutP 44 l).1).1, (parseL (cutP 44 l).1).2.1, (parseL (cutP 44 l).1).2.2.1, (parseL (cutP 44 l).1).2.2.2.1, (parseL (cutP 44 l).1).2.2.2.2.1⟩⟩
def Ft.chk (f : Ft) : Ft × Bool := if f.ok = true then (f, true) else (.z, false)
def Ft.parse (l : List UInt8) : Ft × Bool :=
  if (usualP l).ok = true then
    (if (usualP l).rest = [] then Ft.chk ⟨(usualP l).o, false, (usualP l).a, 0, false, [], false, .z, .z⟩
    else if (summerP (usualP l).o (usualP l).rest).ok = true then
      (if (ruleP (summerP (usualP l).o (usualP l).rest).rest).ok = true then
        (if (ruleP (ruleP (summerP (usualP l).o (usualP l).rest).rest).rest).ok = true then
          (if (ruleP (ruleP (summerP (usualP l).o (usualP l).rest).rest).rest).rest = [] then
            Ft.chk ⟨(usualP l).o, false, (usualP l).a, (summerP (usualP l).o (usualP l).rest).o, true, (summerP (usualP l).o (usualP l).rest).a, true, (ruleP (summerP (usualP l).o (usualP l).rest).rest).r, (ruleP (ruleP (summerP (usualP l).o (usualP l).rest).rest).rest).r⟩
          else (.z, false)) else (.z, false)) else (.z, false)) else (.z, false))
  else (.z, false)
/-- When the summer's time holds in a year. -/
def Ft.spans (f : Ft) (y : Int) : Prop := f.has = true ∧ f.ok = true ∧ 1 ≤ y ∧ y ≤ 9999
instance (f : Ft) (y : Int) : Decidable (f.spans y) := inferInstanceAs (Decidable (_ ∧ _))
def Ft.from' (f : Ft) (y : Int) : Int := f.fr.at y - f.so
def Ft.to' (f : Ft) (y : Int) : Int := f.to.at y - f.wo
/-- Whether a second's year is known; whether the summer's time holds. -/
def inDays (n : Int) : Prop := -719162 ≤ n / 86400 ∧ n / 86400 ≤ 2932896
instance (n : Int) : Decidable (inDays n) := inferInstanceAs (Decidable (_ ∧ _))
def Ft.sum (f : Ft) (p : Int) : Prop := inDays (p + f.so) ∧ f.spans (yearP ((p + f.so) / 86400)) ∧
  ((f.from' (yearP ((p + f.so) / 86400)) ≤ p ∧ p < f.to' (yearP ((p + f.so) / 86400))) ∨ (f.to' (yearP ((p + f.so) / 86400)) ≤ f.from' (yearP ((p + f.so) / 86400)) ∧ (f.from' (yearP ((p + f.so) / 86400)) ≤ p ∨ p < f.to' (yearP ((p + f.so) / 86400)))))
instance (f : Ft) (p : Int) : Decidable (f.sum p) := inferInstanceAs (Decidable (_ ∧ _))
end Go.Proofs.YtenaflbcnkalbaaGreatDoor.Pl
end
section
set_option linter.unusedVariables false
set_option linter.unusedSimpArgs false
namespace Go.Proofs.YtenaflbcnkalbaaGreatDoor.Pl
open Go
set_option linter.unusedVariables false
set_option linter.unusedSimpArgs false
theorem kind_all {o : Int} {d : Bool} {l : List UInt8} {w : Bool} : kindR o d l w = true ↔ abbrL l = true ∧ d = w ∧ -89999 ≤ o ∧ o ≤ 89999 := by
  unfold kindR; simp [and_assoc]
theorem parse_ok (l : List UInt8) : (Ft.parse l).2 = true → (Ft.parse l).1.ok = true := by
  have hc : ∀ f : Ft, f.chk.2 = true → f.chk.1.ok = true := fun f h => by
    unfold Ft.chk at *
    split at h
    · rename_i e; rw [if_pos e]; exact e
    · cases h
  unfold Ft.parse
  repeat' split
  all_goals first | exact hc _ | (intro h; cases h)
end Go.Proofs.YtenaflbcnkalbaaGreatDoor.Pl
end
section
set_option linter.unusedVariables false
set_option linter.unusedSimpArgs false
namespace Go.Proofs.YtenaflbcnkalbaaGreatDoor.Pl
open Go Go.Proofs.YtenaflbcnkalbaaGreatDoor.Eng
set_option linter.unusedVariables false
set_option linter.unusedSimpArgs false
/-- The first place at which it holds, or the end. -/
def fl {α : Type} (q : α → Bool) : List α → Nat
  | [] => 0
  | x :: l => if q x = true then 0 else fl q l + 1
theorem fl_le {α : Type} (q : α → Bool) : ∀ l : List α, fl q l ≤ l.length
  | [] => Nat.le_refl _
  | x :: l => by
    rw [fl]
    split
    · omega
    · have := fl_le q l; simp; omega
theorem fl_spec {α : Type} (q : α → Bool) : ∀ (l : List α) (j : Nat) (h : j < l.length), (j < fl q l → q l[j] = false) ∧ (j = fl q l → q l[j] = true)
  | [], j, h => by simp at h
  | x :: l, 0, _ => by
    rw [fl]
    cases hq : q x
    · exact ⟨fun _ => hq, fun h => by simp at h⟩
    · exact ⟨fun h => by simp at h, fun _ => hq⟩
  | x :: l, j + 1, h => by
    have ih := fl_spec q l j (by simpa using h)
    rw [fl]
    cases hq : q x
    · simp only [Bool.false_eq_true, if_false, List.getElem_cons_succ]
      exact ⟨fun h => ih.1 (by omega), fun h => ih.2 (by omega)⟩
    · exact ⟨fun h => by simp at h, fun h => by simp at h⟩
theorem fl_of {α : Type} (q : α → Bool) (l : List α) (k : Nat) (hk : k ≤ l.length) (h1 : ∀ i (h : i < l.length), i < k → q l[i] = false) (h2 : ∀ h : k < l.length, q l[k] = true) : fl q l = k := by
  have hle := fl_le q l
  rcases Nat.lt_trichotomy (fl q l) k with h | h | h
  · have h3 : fl q l < l.length := by omega
    have := h1 _ h3 h
    rw [(fl_spec q l _ h3).2 rfl] at this
    cases this
  · exact h
  · have h3 : k < l.length := by omega
    have := (fl_spec q l k h3).1 h
    rw [h2 h3] at this
    cases this
abbrev Rec := Int × Int
/-- Records but the expiry. -/
def lastExp (l : List Rec) : Bool := (decide (l.length = 1) && (l.getD 0 (0, 0)).2 == 0) || (decide (1 < l.length) && (l.getD (l.length - 1) (0, 0)).2 == (l.getD (l.length - 2) (0, 0)).2)
def leapsR (l : List Rec) : List Rec := if lastExp l = true then l.take (l.length - 1) else l
def sumR (l : List Rec) (at' : Int) : Int := match ((leapsR l).take (fl (fun c : Rec => decide (c.1 > at')) (leapsR l))).getLast? with
  | none => 0
  | some c => c.2
/-- Whether records are right; how many are ahead, and the one ahead. -/
def recOk : Nat → Rec → List Rec → Bool
  | _, _, [] => true
  | k, b, c :: r =>
    let e := decide (c.2 - b.2 = 0) && r.isEmpty
    decide (k ≤ 200) && decide (0 ≤ c.1) && (e || decide (c.2 - b.2 = 1) || decide (c.2 - b.2 = -1)) && (decide (k = 0) || decide (c.1 - b.1 ≥ if e = true then 0 else 2419199)) && recOk (k + 1) c r
def recRight (l : List Rec) : Bool := recOk 0 (-2419199, 0) l
abbrev Ty := Int × Bool × List UInt8
structure Zn where
  ty : List Ty
  tr : List Rec
  lp : List Rec
  ft : List UInt8
  v : Int
def eTy (t : Ty) : V := .agg [.c (.int .i64 t.1), .c (.bool t.2.1), .c (.string (S t.2.2))]
def eRec (c : Rec) : V := .agg [.c (.int .i64 c.1), .c (.int .i64 c.2)]
def tupZ (z : Zn) : List V × List V × List V × ByteArray × Int × Unit := (z.ty.map eTy, z.tr.map eRec, z.lp.map eRec, S z.ft, z.v, ())
/-- Names, each once, with an end behind each. -/
def poolN : List (List UInt8) → List (List UInt8) → Nat
  | _, [] => 0
  | had, s :: r => if had.contains s = true then poolN had r else s.length + 1 + poolN (s :: had) r
def nin (n a b : Int) : Bool := decide (a ≤ n ∧ n ≤ b)
def countOk (z : Zn) : Bool := (z.ty.map (·.2.2)).all abbrL && decide (poolN [] (z.ty.map (·.2.2)) ≤ 256) && nin z.lp.length 0 201 && nin z.tr.length 0 2000 && nin z.ty.length 1 64 && nin (poolN [] (z.ty.map (·.2.2))) 1 256 && nin z.v 1 4
def oddR (x : Int) : Bool := decide (x < 0) || decide (x > 86400)
def endsOk (z : Zn) : Bool := z.ft.isEmpty || ((Ft.parse z.ft).2 && decide (z.v ≥ if (oddR (Ft.parse z.ft).1.fr.x || oddR (Ft.parse z.ft).1.to.x) = true then 3 else 2))
def trOk (n : Nat) : Option Int → List Rec → Bool
  | _, [] => true
  | b, c :: r => decide (0 ≤ c.2 ∧ c.2 < n) && (match b with | none => true | some a => decide (c.1 > a)) && trOk n (some c.1) r
def zoneRight (z : Zn) : Bool := countOk z && recRight z.lp && (!lastExp z.lp || decide (z.v ≥ 4)) && z.ty.all (fun t => decide (-89999 ≤ t.1 ∧ t.1 ≤ 93599)) && trOk z.ty.length none z.tr && endsOk z
def indexN (z : Zn) (at' : Int) : Nat := fl (fun c : Rec => decide (c.1 > at')) z.tr
def posixR (z : Zn) (at' : Int) : Int := w64 (at' - sumR z.lp at')
def Ft.look (f : Ft) (p : Int) : Ty := if f.sum p then (f.wo, f.wd, f.wa) else (f.so, f.sd, f.sa)
def lookZ (z : Zn) (at' : Int) : Ty :=
  if z.ft ≠ [] ∧ indexN z at' = z.tr.length then (Ft.parse z.ft).1.look (posixR z at')
  else match (z.tr.take (indexN z at')).getLast? with
    | none => z.ty.headD (0, false, [])
    | some c => z.ty.getD c.2.toNat (0, false, [])
end Go.Proofs.YtenaflbcnkalbaaGreatDoor.Pl
end
section
set_option linter.unusedVariables false
set_option linter.unusedSimpArgs false
namespace Go.Proofs.YtenaflbcnkalbaaGreatDoor.Pl
open Go Go.Proofs.YtenaflbcnkalbaaGreatDoor.Eng
set_option linter.unusedVariables false
set_option linter.unusedSimpArgs false
abbrev W32 := BitVec 32
def rotl (x : W32) (k : Nat) : W32 := x <<< k ||| x >>> (32 - k)
/-- The words of a block: sixteen, then those that are mixed. -/
def sched : Nat → List W32 → List W32
  | 0, l => l
  | n + 1, l => sched n (l ++ [rotl (l.getD (l.length - 3) 0 ^^^ l.getD (l.length - 8) 0 ^^^ l.getD (l.length - 14) 0 ^^^ l.getD (l.length - 16) 0) 1])
def next (l : List W32) : List W32 := l ++ [rotl (l.getD (l.length - 3) 0 ^^^ l.getD (l.length - 8) 0 ^^^ l.getD (l.length - 14) 0 ^^^ l.getD (l.length - 16) 0) 1]
def word (b : List UInt8) (i : Nat) : W32 := b.foldl (fun w c => w <<< 8 ||| BitVec.ofNat 32 c.toNat) 0
def wordAt (b : List UInt8) (i : Nat) : W32 := word ((b.drop (4 * i)).take 4) 0
def first (b : List UInt8) (n : Nat) : List W32 := (List.range n).map (wordAt b)
structure St5 where
  a : W32
  b : W32
  c : W32
  d : W32
  e : W32
def s0 : St5 := ⟨1732584193#32, 4023233417#32, 2562383102#32, 271733878#32, 3285377520#32⟩
def St5.at (s : St5) (i : Nat) : W32 := match i with | 0 => s.a | 1 => s.b | 2 => s.c | 3 => s.d | _ => s.e
end Go.Proofs.YtenaflbcnkalbaaGreatDoor.Pl
end
section
set_option linter.unusedVariables false
set_option linter.unusedSimpArgs false
namespace Go.Proofs.YtenaflbcnkalbaaGreatDoor.Pl
open Go Go.Proofs.YtenaflbcnkalbaaGreatDoor.Eng
set_option linter.unusedVariables false
set_option linter.unusedSimpArgs false
def blankB (c : UInt8) : Bool := c == 32 || c == 9
/-- Words. -/
def wd : List UInt8 → List UInt8 → List (List UInt8)
  | cur, [] => if cur = [] then [] else [cur]
  | cur, c :: r => if blankB c = true then (if cur = [] then wd [] r else cur :: wd [] r) else wd (cur ++ [c]) r
/-- A number of a text. -/
def numL (l : List UInt8) : Int × Bool := if l ≠ [] ∧ l.all isDig = true ∧ valL l ≤ 9223372036854775807 then ((valL l : Int), true) else (0, false)
def two (l : List UInt8) : Bool := (numL l).2 && decide (l.length ≤ 2)
/-- Leaps: the day, the step, whether of local time; and tables. -/
abbrev LR := Int × Int × Bool
structure Tb where
  ls : List LR
  has : Bool
  ex : Int
deriving DecidableEq
def eLR (l : LR) : V := .agg [.c (.int .i64 l.1), .c (.int .i64 l.2.1), .c (.bool l.2.2)]
def endD (n : Int) : Bool := decide (-719162 ≤ n ∧ n ≤ 2932896) && (dayP n == dim (yearP n) (monP n))
def wrongL (k : Nat) (l : LR) (ahead : Int) : Int :=
  if 200 ≤ k then 8 else if l.1 < 730 ∨ 2932896 ≤ l.1 then 9 else if endD l.1 = false then 5 else if l.2.1 ≠ 1 ∧ l.2.1 ≠ -1 then 6 else if l.1 ≤ ahead then 4 else 0
/-- The first wrong leap, what is wrong of it, the last day ahead. -/
def checkG : Nat → Int → List LR → Nat × Int × Int
  | k, ahead, [] => (k, 0, ahead)
  | k, ahead, l :: r => if wrongL k l ahead ≠ 0 then (k, wrongL k l ahead, ahead) else checkG (k + 1) l.1 r
def expB (has : Bool) (ex ahead : Int) : Int :=
  if has = true then (if ex < (if 63072000 > (ahead + 1) * 86400 then 63072000 else (ahead + 1) * 86400) ∨ 253402300799 < ex then 9 else 0) else if ex ≠ 0 then 9 else 0
def checkT (t : Tb) : Nat × Int := if (checkG 0 729 t.ls).2.1 ≠ 0 then ((checkG 0 729 t.ls).1, (checkG 0 729 t.ls).2.1) else (t.ls.length, expB t.has t.ex (checkG 0 729 t.ls).2.2)
def rightT (t : Tb) : Bool := (checkT t).2 == 0
/-- A line: its kind, its date, its second, and what a leap has beside. -/
structure Row where
  kind : Int
  y : Int
  m : Int
  d : Int
  sec : Int
  sign : List UInt8
  roll : Bool
/-- What is read so far: the table (without an expiry), the line of the expiry, and what it says. -/
structure Src where
  ls : List LR
  at' : Int
  til : Int
def tb0 : Tb := ⟨[], false, 0⟩
theorem set_mid {α : Type} (a : List α) (x y : α) (b : List α) : (a ++ y :: b).set a.length x = a ++ x :: b := by
  induction a with
  | nil => rfl
  | cons h t ih => simp
theorem dneg {p : Prop} [Decidable p] (h : ¬ p) : ¬ (decide p = true) := by simpa using h
def TLV (l : List LR) : List V := l.map eLR
theorem TLV_len (l : List LR) : (TLV l).length = l.length := by simp [TLV]
theorem asL1 {l : List LR} {i : Nat} (h : i < l.length) {F : Prop} {K : Int → Prop} (hk : K (l[i]).1) : Eng.asInt .i64 (getC (TLV l) i 0) F K := by
  have : getC (TLV l) i 0 = some (.c (.int .i64 (l[i]).1)) := by simp [getC, TLV, eLR, V.cells, h]
  rw [this]; simpa [Eng.asInt] using hk
theorem asL2 {l : List LR} {i : Nat} (h : i < l.length) {F : Prop} {K : Int → Prop} (hk : K (l[i]).2.1) : Eng.asInt .i64 (getC (TLV l) i 1) F K := by
  have : getC (TLV l) i 1 = some (.c (.int .i64 (l[i]).2.1)) := by simp [getC, TLV, eLR, V.cells, h]
  rw [this]; simpa [Eng.asInt] using hk
theorem asL3 {l : List LR} {i : Nat} (h : i < l.length) {F : Prop} {K : Bool → Prop} (hk : K (l[i]).2.2) : Eng.asBool (getC (TLV l) i 2) F K := by
  have : getC (TLV l) i 2 = some (.c (.bool (l[i]).2.2)) := by simp [getC, TLV, eLR, V.cells, h]
  rw [this]; simpa [Eng.asBool] using hk
theorem wrongL_0 {k : Nat} {l : LR} {a : Int} (h : wrongL k l a = 0) : k < 200 ∧ 730 ≤ l.1 ∧ l.1 < 2932896 ∧ endD l.1 = true ∧ (l.2.1 = 1 ∨ l.2.1 = -1) ∧ a < l.1 := by
  unfold wrongL at h
  split at h; · omega
  split at h; · omega
  split at h; · omega
  split at h; · omega
  split at h; · omega
  rename_i h1 h2 h3 h4 h5
  refine ⟨by omega, by omega, by omega, by simpa using h3, by omega, by omega⟩
end Go.Proofs.YtenaflbcnkalbaaGreatDoor.Pl
end
section
set_option linter.unusedVariables false
set_option linter.unusedSimpArgs false
namespace Go.Proofs.YtenaflbcnkalbaaGreatDoor.Pl
open Go Go.Proofs.YtenaflbcnkalbaaGreatDoor.Eng
set_option linter.unusedVariables false
set_option linter.unusedSimpArgs false
def dd (n : Int) : List UInt8 := [UInt8.ofNat (48 + (n / 10 % 10).toNat), UInt8.ofNat (48 + (n % 10).toNat)]
def hms (x : Int) : List UInt8 := dd (x / 3600) ++ 58 :: (dd (x / 60 % 60) ++ 58 :: dd (x % 60))
theorem map_id_of {α : Type} {f : α → α} : ∀ (l : List α), (∀ x ∈ l, f x = x) → l.map f = l
  | [], _ => rfl
  | x :: r, h => by rw [List.map_cons, h x (.head _), map_id_of r fun y hy => h y (.tail _ hy)]
theorem checkG_all : ∀ (p : List LR) (k : Nat) (a : Int), (checkG k a p).2.1 = 0 → ∀ l ∈ p, 730 ≤ l.1 ∧ l.1 < 2932896 ∧ (l.2.1 = 1 ∨ l.2.1 = -1)
  | [], k, a, h, l, hl => by cases hl
  | x :: p, k, a, h, l, hl => by
    rw [checkG] at h
    split at h
    · rename_i hw; exact absurd h hw
    · rename_i hw
      have hw : wrongL k x a = 0 := by omega
      obtain ⟨_, q1, q2, _, q3, _⟩ := wrongL_0 hw
      cases hl with
      | head => exact ⟨q1, q2, q3⟩
      | tail _ hl => exact checkG_all p _ _ h l hl
theorem right_0 {t : Tb} (h : rightT t = true) : (checkG 0 729 t.ls).2.1 = 0 ∧ expB t.has t.ex (checkG 0 729 t.ls).2.2 = 0 := by
  unfold rightT checkT at h
  rw [beq_iff_eq] at h
  split at h
  · rename_i hw; exact absurd h hw
  · rename_i hw; exact ⟨by omega, h⟩
theorem right_ex {t : Tb} (h : rightT t = true) : (t.has = false → t.ex = 0) ∧ (t.has = true → 63072000 ≤ t.ex ∧ t.ex ≤ 253402300799) := by
  obtain ⟨h1, h2⟩ := right_0 h
  unfold expB at h2
  constructor
  · intro hh
    rw [hh, if_neg (by simp)] at h2
    split at h2 <;> omega
  · intro hh
    rw [hh, if_pos rfl] at h2
    split at h2
    · omega
    · split at h2 <;> omega
end Go.Proofs.YtenaflbcnkalbaaGreatDoor.Pl
end
section
set_option linter.unusedVariables false
set_option linter.unusedSimpArgs false
namespace Go.Proofs.YtenaflbcnkalbaaGreatDoor.Pl
open Go Go.Proofs.YtenaflbcnkalbaaGreatDoor.Eng
set_option linter.unusedVariables false
set_option linter.unusedSimpArgs false
def midL (l : LR) : Int := (l.1 + 1) * 86400
/-- When a leap is, without those ahead of it. -/
def instR (z : Zn) (l : LR) : Int := if l.2.2 = true then midL l - (lookZ z (midL l - 1)).1 else midL l
def recG (z : Zn) : Int → List LR → List Rec
  | _, [] => []
  | s, l :: r => (instR z l + s + min l.2.1 0, s + l.2.1) :: recG z (s + l.2.1) r
def stepsL (ls : List LR) : Int := (ls.map (·.2.1)).sum
def recAll (z : Zn) (t : Tb) : List Rec := recG z 0 t.ls ++ (if t.has = true then [(t.ex + stepsL t.ls, stepsL t.ls)] else [])
/-- What is wrong of records. -/
def recErr : Nat → Rec → List Rec → Int
  | _, _, [] => 0
  | k, b, c :: r =>
    if 200 < k then 8 else if c.1 < 0 then 9 else if (decide (c.2 - b.2 = 0) && r.isEmpty) = false ∧ c.2 - b.2 ≠ 1 ∧ c.2 - b.2 ≠ -1 then 6
    else if 0 < k ∧ c.1 - b.1 < (if (decide (c.2 - b.2 = 0) && r.isEmpty) = true then 0 else 2419199) then 7 else recErr (k + 1) c r
def recE (l : List Rec) : Int := recErr 0 (-2419199, 0) l
def recordsR (z : Zn) (t : Tb) : List Rec × Int := if recE (recAll z t) = 0 then (recAll z t, 0) else ([], recE (recAll z t))
def inI (n : Int) : Prop := -9223372036854775808 ≤ n ∧ n ≤ 9223372036854775807
instance (n : Int) : Decidable (inI n) := by unfold inI; infer_instance
def shiftS (z : Zn) (ls : List LR) (p : Int) : Int := ((ls.filter fun l => decide (instR z l ≤ p)).map (·.2.1)).sum
def shiftR (z : Zn) (ls : List LR) (p : Int) : Int × Bool := if inI (p + shiftS z ls p) then (p + shiftS z ls p, true) else (0, false)
def zn0 : Zn := ⟨[], [], [], [], 0⟩
def rising : List Rec → Bool
  | [] => true
  | [_] => true
  | a :: b :: r => decide (a.1 < b.1) && rising (b :: r)
/-- A zone whose changes are elsewhere. -/
def movedR (z : Zn) (to : Int → Int × Bool) : Zn × Int :=
  if z.tr.all (fun c => (to c.1).2) = true then
    if rising (z.tr.map fun c => ((to c.1).1, c.2)) = true then (⟨z.ty, z.tr.map fun c => ((to c.1).1, c.2), z.lp, z.ft, z.v⟩, 0) else (zn0, 4)
  else (zn0, 8)
def compileR (z : Zn) (t : Tb) : Zn × Int :=
  if ¬ ((z.lp = [] ∧ zoneRight z = true) ∧ rightT t = true) then (zn0, 1)
  else if (recordsR z t).2 ≠ 0 then (zn0, (recordsR z t).2)
  else if (movedR z (shiftR z t.ls)).2 ≠ 0 then (zn0, (movedR z (shiftR z t.ls)).2)
  else (⟨(movedR z (shiftR z t.ls)).1.ty, (movedR z (shiftR z t.ls)).1.tr, (recordsR z t).1, (movedR z (shiftR z t.ls)).1.ft, if t.has = true then 4 else (movedR z (shiftR z t.ls)).1.v⟩, 0)
def stepT (ls : List LR) (i : Nat) : Int := (ls.getD i (0, 0, false)).2.1
def sumT (ls : List LR) (i : Nat) : Int := stepsL (ls.take i)
theorem stepsL_cons (l : LR) (r : List LR) : stepsL (l :: r) = l.2.1 + stepsL r := by simp [stepsL]
theorem stepsL_app (a b : List LR) : stepsL (a ++ b) = stepsL a + stepsL b := by simp [stepsL]
theorem sumT_succ {ls : List LR} {i : Nat} (h : i < ls.length) : sumT ls (i + 1) = sumT ls i + stepT ls i := by
  unfold sumT stepT
  rw [List.take_succ_eq_append_getElem h, stepsL_app, List.getD, List.getElem?_eq_getElem h]; simp [stepsL]
theorem recG_len (z : Zn) : ∀ (ls : List LR) (s : Int), (recG z s ls).length = ls.length
  | [], _ => rfl
  | l :: r, s => by rw [recG, List.length_cons, List.length_cons, recG_len z r]
theorem recG_get (z : Zn) : ∀ (ls : List LR) (s : Int) (i : Nat) (h : i < ls.length) (h' : i < (recG z s ls).length),
    (recG z s ls)[i] = (instR z ls[i] + (s + sumT ls i) + min (stepT ls i) 0, s + sumT ls (i + 1))
  | l :: r, s, 0, h, h' => by simp [recG, sumT, stepT, stepsL]
  | l :: r, s, i + 1, h, h' => by
    have hr : i < r.length := by simpa using h
    have := recG_get z r (s + l.2.1) i hr (by rw [recG_len]; exact hr)
    simp only [recG, List.getElem_cons_succ]
    rw [this]
    unfold sumT stepT
    rw [List.take_succ_cons, List.take_succ_cons, stepsL_cons, stepsL_cons]
    simp [Int.add_assoc]
theorem getD_app_lt {α : Type} (a b : List α) (d : α) (i : Nat) (h : i < a.length) : (a ++ b).getD i d = a.getD i d := by
  simp only [List.getD]; rw [List.getElem?_append_left h]
theorem rising_get : ∀ (l : List Rec), rising l = true → ∀ i (h : i + 1 < l.length), (l[i]).1 < (l[i + 1]).1
  | a :: b :: r, h, i, hi => by
    rw [rising, Bool.and_eq_true, decide_eq_true_eq] at h
    cases i with
    | zero => exact h.1
    | succ i => exact rising_get (b :: r) h.2 i (by simpa using hi)
  | [a], h, i, hi => by simp at hi
end Go.Proofs.YtenaflbcnkalbaaGreatDoor.Pl
end
section
set_option linter.unusedVariables false
set_option linter.unusedSimpArgs false
namespace Go.Proofs.YtenaflbcnkalbaaGreatDoor.Pl
open Go Go.Proofs.YtenaflbcnkalbaaGreatDoor.Eng
set_option linter.unusedVariables false
set_option linter.unusedSimpArgs false
theorem right_steps {t : Tb} (h : rightT t = true) : ∀ l ∈ t.ls, l.2.1 = 1 ∨ l.2.1 = -1 := fun l hl => (checkG_all _ _ _ (right_0 h).1 l hl).2.2
structure CompOk (z : Zn) (t : Tb) (y : Zn) : Prop where
  lp : z.lp = []
  zr : zoneRight z = true
  tr : rightT t = true
  ro : recE (recAll z t) = 0
  al : z.tr.all (fun c => (shiftR z t.ls c.1).2) = true
  ri : rising (z.tr.map fun c => ((shiftR z t.ls c.1).1, c.2)) = true
  eq : y = ⟨z.ty, z.tr.map fun c => ((shiftR z t.ls c.1).1, c.2), recAll z t, z.ft, if t.has = true then 4 else z.v⟩
theorem stepsL_bd : ∀ (ls : List LR), (∀ l ∈ ls, l.2.1 = 1 ∨ l.2.1 = -1) → -(ls.length : Int) ≤ stepsL ls ∧ stepsL ls ≤ ls.length
  | [], _ => by simp [stepsL]
  | l :: r, h => by
    have := stepsL_bd r fun x hx => h x (.tail _ hx)
    have := h l (.head _)
    rw [stepsL_cons, List.length_cons]; omega
theorem right_len {t : Tb} (h : rightT t = true) : t.ls.length ≤ 200 := by
  have : ∀ (p : List LR) (k : Nat) (a : Int), (checkG k a p).2.1 = 0 → p = [] ∨ k + p.length ≤ 200 := by
    intro p
    induction p with
    | nil => intro k a _; exact .inl rfl
    | cons x p ih =>
      intro k a h
      rw [checkG] at h
      split at h
      · rename_i hw; exact absurd h hw
      · rename_i hw
        have hw : wrongL k x a = 0 := by omega
        obtain ⟨q0, _⟩ := wrongL_0 hw
        rcases ih _ _ h with rfl | h'
        · right; simp; omega
        · right; simp; omega
  rcases this _ _ _ (right_0 h).1 with e | e
  · rw [e]; simp
  · omega
theorem shiftS_cons (z : Zn) (l : LR) (r : List LR) (p : Int) : shiftS z (l :: r) p = (if instR z l ≤ p then l.2.1 else 0) + shiftS z r p := by
  unfold shiftS
  rw [List.filter_cons]
  by_cases h : instR z l ≤ p
  · rw [if_pos (decide_eq_true h), if_pos h]; simp
  · rw [if_neg (by simpa using h), if_neg h]; simp
theorem shiftS_bd (z : Zn) (p : Int) : ∀ (ls : List LR), (∀ l ∈ ls, l.2.1 = 1 ∨ l.2.1 = -1) → -(ls.length : Int) ≤ shiftS z ls p ∧ shiftS z ls p ≤ ls.length
  | [], _ => by simp [shiftS]
  | l :: r, h => by
    have := shiftS_bd z p r fun x hx => h x (.tail _ hx)
    have := h l (.head _)
    rw [shiftS_cons, List.length_cons]; split <;> omega
theorem shift_app (z : Zn) (p : Int) (a b : List LR) : shiftS z (a ++ b) p = shiftS z a p + shiftS z b p := by
  unfold shiftS; rw [List.filter_append, List.map_append, List.sum_append]
theorem ends_apart {a b : Int} (ha : endD a = true) (hb : endD b = true) (h : a < b) : a + 28 ≤ b := by
  unfold endD at ha hb
  rw [Bool.and_eq_true, decide_eq_true_eq, beq_iff_eq] at ha hb
  obtain ⟨⟨v1, v2, v3, v4, v5, v6⟩, e⟩ := num_date hb.1.1 hb.1.2
  have hd := dim_bd (yearP b) (monP b)
  by_cases hlt : b - a < 28
  · have hv : Vld (yearP b) (monP b) (dim (yearP b) (monP b) - (b - a)) := ⟨v1, v2, v3, v4, by omega, by omega⟩
    have hn : num (yearP b) (monP b) (dim (yearP b) (monP b) - (b - a)) = a := by
      unfold num at e ⊢
      rw [hb.2] at e; omega
    obtain ⟨q1, q2, q3⟩ := date_num hv
    rw [hn] at q1 q2 q3
    have := ha.2
    rw [q1, q2, q3] at this
    omega
  · omega
theorem checkG_days : ∀ (p : List LR) (k : Nat) (a : Int), (checkG k a p).2.1 = 0 → (∀ i (h : i < p.length), endD (p[i]).1 = true ∧ a < (p[i]).1) ∧ ∀ i j (hi : i < p.length) (hj : j < p.length), i < j → (p[i]).1 + 28 ≤ (p[j]).1
  | [], k, a, h => ⟨fun i hi => by simp at hi, fun i j hi => by simp at hi⟩
  | x :: p, k, a, h => by
    rw [checkG] at h
    split at h
    · rename_i hw; exact absurd h hw
    · rename_i hw
      have hw : wrongL k x a = 0 := by omega
      obtain ⟨_, q1, q2, q3, q4, q5⟩ := wrongL_0 hw
      obtain ⟨r1, r2⟩ := checkG_days p _ _ h
      refine ⟨fun i hi => ?_, fun i j hi hj hij => ?_⟩
      · cases i with
        | zero => exact ⟨q3, q5⟩
        | succ i =>
          have := r1 i (by simpa using hi)
          simp only [List.getElem_cons_succ]
          exact ⟨this.1, by omega⟩
      · cases j with
        | zero => omega
        | succ j =>
          have hj' : j < p.length := by simpa using hj
          simp only [List.getElem_cons_succ]
          cases i with
          | zero => exact ends_apart q3 (r1 j hj').1 (r1 j hj').2
          | succ i =>
            simp only [List.getElem_cons_succ]
            exact r2 i j (by simpa using hi) hj' (by omega)
theorem right_days {t : Tb} (h : rightT t = true) : ∀ i j (hi : i < t.ls.length) (hj : j < t.ls.length), i < j → (t.ls[i]).1 + 28 ≤ (t.ls[j]).1 := (checkG_days _ _ _ (right_0 h).1).2
theorem right_rng {t : Tb} (h : rightT t = true) : ∀ l ∈ t.ls, 730 ≤ l.1 ∧ l.1 < 2932896 := fun l hl => ⟨(checkG_all _ _ _ (right_0 h).1 l hl).1, (checkG_all _ _ _ (right_0 h).1 l hl).2.1⟩
/-- Every kind of local time of a right zone is within bounds. -/
def offOk (z : Zn) : Prop := ∀ a, -89999 ≤ (lookZ z a).1 ∧ (lookZ z a).1 ≤ 93599
theorem inst_bd {z : Zn} (hz : offOk z) (l : LR) : midL l - 93599 ≤ instR z l ∧ instR z l ≤ midL l + 89999 := by
  have := hz (midL l - 1)
  unfold instR
  split <;> omega
theorem inst_pos {z : Zn} (hz : offOk z) {t : Tb} (h : rightT t = true) : ∀ l ∈ t.ls, 0 < instR z l ∧ instR z l < 300000000000 := fun l hl => by
  have := right_rng h l hl
  have := inst_bd hz l
  unfold midL at this
  omega
theorem recG_take (z : Zn) : ∀ (ls : List LR) (s : Int) (k : Nat), (recG z s ls).take k = recG z s (ls.take k)
  | _, _, 0 => by simp [recG]
  | [], s, k + 1 => by simp [recG]
  | l :: r, s, k + 1 => by rw [recG, List.take_succ_cons, List.take_succ_cons, recG, recG_take z r]
theorem recErr_of : ∀ (l : List Rec) (k : Nat) (x : Rec), (∀ i (h : i < l.length), 0 ≤ (l[i]).1 ∧ k + i ≤ 200 ∧
      ((l[i]).2 - (if i = 0 then x.2 else (l.getD (i - 1) (0, 0)).2) = 1 ∨ (l[i]).2 - (if i = 0 then x.2 else (l.getD (i - 1) (0, 0)).2) = -1 ∨ ((l[i]).2 - (if i = 0 then x.2 else (l.getD (i - 1) (0, 0)).2) = 0 ∧ i + 1 = l.length)) ∧
      (0 < k + i → (l[i]).1 - (if i = 0 then x.1 else (l.getD (i - 1) (0, 0)).1) ≥ if (l[i]).2 - (if i = 0 then x.2 else (l.getD (i - 1) (0, 0)).2) = 0 then 0 else 2419199)) → recErr k x l = 0
  | [], k, x, h => rfl
  | c :: r, k, x, h => by
    obtain ⟨h1, h2, h3, h4⟩ := h 0 (by simp)
    simp only [if_true, List.getElem_cons_zero, Nat.add_zero, List.length_cons] at h1 h2 h3 h4
    rw [recErr, if_neg (by omega), if_neg (by omega)]
    have hr : recErr (k + 1) c r = 0 := recErr_of r (k + 1) c fun i hi => by
      obtain ⟨g1, g2, g3, g4⟩ := h (i + 1) (by simp; omega)
      have e1 : (if i + 1 = 0 then x.2 else ((c :: r).getD (i + 1 - 1) (0, 0)).2) = if i = 0 then c.2 else (r.getD (i - 1) (0, 0)).2 := by
        rw [if_neg (by omega), Nat.add_sub_cancel]
        cases i with
        | zero => rfl
        | succ i => simp
      have e2 : (if i + 1 = 0 then x.1 else ((c :: r).getD (i + 1 - 1) (0, 0)).1) = if i = 0 then c.1 else (r.getD (i - 1) (0, 0)).1 := by
        rw [if_neg (by omega), Nat.add_sub_cancel]
        cases i with
        | zero => rfl
        | succ i => simp
      rw [e1] at g3 g4
      rw [e2] at g4
      simp only [List.getElem_cons_succ, List.length_cons] at g1 g3 g4
      exact ⟨g1, by omega, by omega, fun _ => g4 (by omega)⟩
    by_cases e0 : c.2 - x.2 = 0
    · have re : r.isEmpty = true := by cases r with
        | nil => rfl
        | cons d q => simp at h3; omega
      rw [if_neg (by simp [e0, re])]
      rw [if_neg]
      · exact hr
      · rintro ⟨k1, k2⟩
        have := h4 k1
        rw [if_pos e0] at this
        rw [if_pos (by simp [e0, re])] at k2
        omega
    · rw [if_neg (by omega)]
      rw [if_neg]
      · exact hr
      · rintro ⟨k1, k2⟩
        have := h4 k1
        rw [if_neg e0] at this
        rw [if_neg (by simp [e0])] at k2
        omega
end Go.Proofs.YtenaflbcnkalbaaGreatDoor.Pl
end
section
set_option linter.unusedVariables false
set_option linter.unusedSimpArgs false
namespace Go.Proofs.YtenaflbcnkalbaaGreatDoor.Pl
open Go Go.Proofs.YtenaflbcnkalbaaGreatDoor.Eng
set_option linter.unusedVariables false
set_option linter.unusedSimpArgs false
theorem checkG_ahead : ∀ (p : List LR) (k : Nat) (a : Int), (checkG k a p).2.1 = 0 → (checkG k a p).2.2 = (p.getLast?.map (·.1)).getD a
  | [], k, a, h => rfl
  | x :: p, k, a, h => by
    rw [checkG] at h ⊢
    split at h
    · rename_i hw; exact absurd h hw
    · rename_i hw
      rw [if_neg hw, checkG_ahead p _ _ h]
      cases p with
      | nil => rfl
      | cons y q => rw [List.getLast?_cons_cons]; cases hq : (y :: q).getLast? with
        | none => simp at hq
        | some z => rfl
theorem right_after {t : Tb} (h : rightT t = true) (hh : t.has = true) (hp : 0 < t.ls.length) : midL (t.ls[t.ls.length - 1]'(by omega)) ≤ t.ex := by
  obtain ⟨h1, h2⟩ := right_0 h
  rw [checkG_ahead _ _ _ h1, List.getLast?_eq_getElem?, List.getElem?_eq_getElem (by omega)] at h2
  unfold expB at h2
  rw [hh, if_pos rfl] at h2
  simp only [Option.map_some, Option.getD_some] at h2
  unfold midL
  split at h2
  · omega
  · split at h2 <;> omega
theorem stepT_of {t : Tb} (hst : ∀ l ∈ t.ls, l.2.1 = 1 ∨ l.2.1 = -1) : ∀ i, i < t.ls.length → stepT t.ls i = 1 ∨ stepT t.ls i = -1 := fun i h => by
  have := hst _ (List.getElem_mem h)
  unfold stepT
  rw [List.getD, List.getElem?_eq_getElem h]; exact this
theorem sumT_bd {t : Tb} (hst : ∀ l ∈ t.ls, l.2.1 = 1 ∨ l.2.1 = -1) (i : Nat) : -(t.ls.length : Int) ≤ sumT t.ls i ∧ sumT t.ls i ≤ t.ls.length := by
  have := stepsL_bd (t.ls.take i) fun l hl => hst l (List.mem_of_mem_take hl)
  have h2 : (t.ls.take i).length ≤ t.ls.length := by simp; omega
  unfold sumT; omega
theorem recAll_len (z : Zn) (t : Tb) : (recAll z t).length = t.ls.length + if t.has = true then 1 else 0 := by
  unfold recAll; rw [List.length_append, recG_len]; split <;> rfl
theorem recAll_lt (z : Zn) (t : Tb) (i : Nat) (h : i < t.ls.length) : (recAll z t).getD i (0, 0) = (instR z t.ls[i] + sumT t.ls i + min (stepT t.ls i) 0, sumT t.ls (i + 1)) := by
  have hl : (recG z 0 t.ls).length = t.ls.length := recG_len z _ _
  have h' : i < (recG z 0 t.ls).length := by omega
  unfold recAll
  rw [getD_app_lt _ _ _ _ h', List.getD, List.getElem?_eq_getElem h', Option.getD_some, recG_get z t.ls 0 i h h']
  simp
theorem recAll_end (z : Zn) (t : Tb) (h : t.has = true) : (recAll z t).getD t.ls.length (0, 0) = (t.ex + sumT t.ls t.ls.length, sumT t.ls t.ls.length) := by
  have hl : t.ls.length = (recG z 0 t.ls).length := (recG_len z _ _).symm
  unfold recAll sumT
  rw [if_pos h, List.take_length]
  simp only [List.getD]
  conv => lhs; rw [hl, List.getElem?_append_right (Nat.le_refl _)]
  simp
theorem inst_utc {z : Zn} {l : LR} (h : l.2.2 = false) : instR z l = midL l := by unfold instR; rw [if_neg (by simp [h])]
theorem recs_utc (z : Zn) {t : Tb} (h : rightT t = true) (hr : ∀ l ∈ t.ls, l.2.2 = false) : recE (recAll z t) = 0 := by
  have hst := right_steps h
  have hlen := right_len h
  have st := stepT_of hst
  have mid : ∀ i (hi : i < t.ls.length), 63158400 ≤ midL t.ls[i] ∧ midL t.ls[i] ≤ 253402300800 := fun i hi => by
    have := right_rng h _ (List.getElem_mem hi)
    unfold midL; omega
  unfold recE
  refine recErr_of _ _ _ fun i hi => ?_
  have hi' := hi
  rw [recAll_len] at hi'
  have eg : (recAll z t)[i] = (recAll z t).getD i (0, 0) := by rw [List.getD, List.getElem?_eq_getElem hi]; rfl
  have sb := sumT_bd hst
  rw [eg]
  by_cases e : i < t.ls.length
  · rw [recAll_lt z t i e, inst_utc (hr _ (List.getElem_mem e))]
    have s1 := sumT_succ e
    have s2 := st i e
    have m1 := mid i e
    have b1 := sb i
    refine ⟨by dsimp only; omega, by omega, ?_, fun hk => ?_⟩
    · by_cases e0 : i = 0
      · subst e0
        rw [if_pos rfl]
        have : sumT t.ls 0 = 0 := rfl
        dsimp only; omega
      · rw [if_neg e0, recAll_lt z t (i - 1) (by omega), show i - 1 + 1 = i by omega]
        dsimp only; omega
    · have e0 : i ≠ 0 := by omega
      rw [if_neg e0, if_neg e0, recAll_lt z t (i - 1) (by omega), inst_utc (hr _ (List.getElem_mem _)), show i - 1 + 1 = i by omega]
      have s3 := sumT_succ (ls := t.ls) (i := i - 1) (by omega)
      have s4 := st (i - 1) (by omega)
      have d := right_days h (i - 1) i (by omega) e (by omega)
      rw [show i - 1 + 1 = i by omega] at s3
      dsimp only
      rw [if_neg (by omega)]
      unfold midL; omega
  · have hh : t.has = true := by
      cases hh : t.has
      · rw [hh] at hi'; simp at hi'; omega
      · rfl
    rw [hh, if_pos rfl] at hi'
    have ei : i = t.ls.length := by omega
    subst ei
    rw [recAll_end z t hh]
    obtain ⟨x1, x2⟩ := (right_ex h).2 hh
    have b1 := sb t.ls.length
    have z0 : sumT t.ls 0 = 0 := rfl
    refine ⟨by dsimp only; omega, by omega, ?_, fun hk => ?_⟩
    · refine .inr (.inr ⟨?_, by rw [recAll_len, hh, if_pos rfl]⟩)
      by_cases e0 : t.ls.length = 0
      · rw [if_pos e0, e0, z0]; rfl
      · rw [if_neg e0, recAll_lt z t (t.ls.length - 1) (by omega), show t.ls.length - 1 + 1 = t.ls.length by omega]
        dsimp only; omega
    · have e0 : t.ls.length ≠ 0 := by omega
      rw [if_neg e0, if_neg e0, recAll_lt z t (t.ls.length - 1) (by omega), inst_utc (hr _ (List.getElem_mem _)), show t.ls.length - 1 + 1 = t.ls.length by omega]
      have s3 := sumT_succ (ls := t.ls) (i := t.ls.length - 1) (by omega)
      have s4 := st (t.ls.length - 1) (by omega)
      have d := right_after h hh (by omega)
      rw [show t.ls.length - 1 + 1 = t.ls.length by omega] at s3
      dsimp only
      rw [if_pos (by omega)]
      omega
theorem recs_same (z : Zn) : ∀ (ls : List LR) (s : Int), (∀ l ∈ ls, l.2.2 = false) → recG z s ls = recG zn0 s ls
  | [], _, _ => rfl
  | l :: r, s, h => by
    rw [recG, recG, inst_utc (h l (.head _)), inst_utc (h l (.head _)), recs_same z r _ fun x hx => h x (.tail _ hx)]
theorem look_off {z : Zn} (h : zoneRight z = true) (hf : ∀ p, z.ft ≠ [] → -89999 ≤ ((Ft.parse z.ft).1.look p).1 ∧ ((Ft.parse z.ft).1.look p).1 ≤ 89999) : offOk z := by
  intro a
  unfold zoneRight at h
  simp only [Bool.and_eq_true] at h
  obtain ⟨⟨⟨⟨⟨c, r⟩, e⟩, ty⟩, tr⟩, en⟩ := h
  have hty : ∀ t ∈ z.ty, -89999 ≤ t.1 ∧ t.1 ≤ 93599 := fun t ht => by simpa using List.all_eq_true.1 ty t ht
  unfold lookZ
  split
  · rename_i h1; have := hf (posixR z a) h1.1; omega
  · split
    · cases hz : z.ty with
      | nil => simp
      | cons x y => exact hty x (by rw [hz]; exact .head _)
    · rename_i c hc
      by_cases hlt : c.2.toNat < z.ty.length
      · rw [List.getD, List.getElem?_eq_getElem hlt]; exact hty _ (List.getElem_mem hlt)
      · rw [List.getD, List.getElem?_eq_none (by omega)]; simp
theorem rising_tr : ∀ (n : Nat) (b : Option Int) (l : List Rec), trOk n b l = true → rising l = true
  | n, b, [], h => rfl
  | n, b, [c], h => rfl
  | n, b, c :: d :: r, h => by
    have h2 : trOk n (some c.1) (d :: r) = true := by
      simp only [trOk, Bool.and_eq_true] at h ⊢
      exact h.2
    have h3 : c.1 < d.1 := by
      simp only [trOk, Bool.and_eq_true, decide_eq_true_eq] at h2
      exact h2.1.2
    rw [rising, Bool.and_eq_true, decide_eq_true_eq]
    exact ⟨h3, rising_tr n (some c.1) (d :: r) h2⟩
theorem compile_none {z : Zn} (h : zoneRight z = true) (hl : z.lp = []) (ht : ∀ c ∈ z.tr, inI c.1) : compileR z tb0 = (z, 0) := by
  have hr : rightT tb0 = true := by decide
  have e0 : recAll z tb0 = [] := rfl
  have er : recordsR z tb0 = ([], 0) := by unfold recordsR; rw [e0]; rfl
  have esh : ∀ p, inI p → shiftR z tb0.ls p = (p, true) := fun p hp => by
    have : shiftS z tb0.ls p = 0 := rfl
    unfold shiftR; rw [this, Int.add_zero, if_pos hp]
  have em : z.tr.map (fun c => ((shiftR z tb0.ls c.1).1, c.2)) = z.tr := map_id_of z.tr fun c hc => by rw [esh c.1 (ht c hc)]
  have tr : rising z.tr = true := by
    unfold zoneRight at h
    simp only [Bool.and_eq_true] at h
    exact rising_tr _ _ _ h.1.2
  have emv : movedR z (shiftR z tb0.ls) = (z, 0) := by
    unfold movedR
    rw [if_pos (List.all_eq_true.2 fun c hc => by rw [esh c.1 (ht c hc)]), em, if_pos tr]
  unfold compileR
  rw [if_neg (fun hh => hh ⟨⟨hl, h⟩, hr⟩), er, if_neg (by simp), emv, if_neg (by simp), if_neg (by simp [tb0])]
  cases z; simp only at hl; subst hl; rfl
end Go.Proofs.YtenaflbcnkalbaaGreatDoor.Pl
namespace Go.Proofs.YtenaflbcnkalbaaGreatDoor.Pl
open Go Go.Proofs.YtenaflbcnkalbaaGreatDoor.Eng
def subR (z : Zn) (a : Int) : Int × Bool := if inI (a - sumR z.lp a) then (a - sumR z.lp a, true) else (0, false)
def stripR (z : Zn) : Zn × Int := if zoneRight z = true then (⟨(movedR z (subR z)).1.ty, (movedR z (subR z)).1.tr, [], (movedR z (subR z)).1.ft, (movedR z (subR z)).1.v⟩, (movedR z (subR z)).2) else (zn0, 1)
theorem rising_of : ∀ (l : List Rec), (∀ i (h : i + 1 < l.length), (l[i]).1 < (l[i + 1]).1) → rising l = true
  | [], _ => rfl
  | [_], _ => rfl
  | a :: b :: r, h => by
    rw [rising, Bool.and_eq_true, decide_eq_true_eq]
    exact ⟨h 0 (by simp), rising_of (b :: r) fun i hi => h (i + 1) (by simp at hi ⊢; omega)⟩
theorem foot_off {l : List UInt8} (h : (Ft.parse l).2 = true) (p : Int) : -89999 ≤ ((Ft.parse l).1.look p).1 ∧ ((Ft.parse l).1.look p).1 ≤ 89999 := by
  have hok := parse_ok l h
  have hok' := hok
  unfold Ft.ok at hok'
  rw [Bool.and_eq_true] at hok'
  unfold Ft.look
  split
  · rename_i hs
    have hh : (Ft.parse l).1.has = true := hs.2.1.1
    have := hok'.2
    rw [if_pos hh, Bool.and_eq_true, Bool.and_eq_true] at this
    exact (kind_all.1 this.1.1).2.2
  · exact (kind_all.1 hok'.1).2.2
theorem right_off {z : Zn} (h : zoneRight z = true) : offOk z := look_off h fun p hne => by
  unfold zoneRight at h
  simp only [Bool.and_eq_true] at h
  have en := h.2
  unfold endsOk at en
  rw [Bool.or_eq_true, List.isEmpty_iff, Bool.and_eq_true] at en
  exact foot_off (en.resolve_left hne).1 p
end Go.Proofs.YtenaflbcnkalbaaGreatDoor.Pl
end
section
set_option linter.unusedVariables false
set_option linter.unusedSimpArgs false
namespace Go.Proofs.YtenaflbcnkalbaaGreatDoor
open Go Go.Proofs.YtenaflbcnkalbaaGreatDoor.Eng Go.Proofs.YtenaflbcnkalbaaGreatDoor.Pl
set_option linter.unusedVariables false
set_option linter.unusedSimpArgs false
set_option maxRecDepth 100000
set_option maxHeartbeats 2000000
def RV (l : List Rec) : List V := l.map eRec
def TV (l : List Ty) : List V := l.map eTy
theorem RV_len (l : List Rec) : (RV l).length = l.length := by simp [RV]
theorem TV_len (l : List Ty) : (TV l).length = l.length := by simp [TV]
theorem asR1 {l : List Rec} {i : Nat} (h : i < l.length) {F : Prop} {K : Int → Prop} (hk : K (l[i]).1) : Eng.asInt .i64 (getC (RV l) i 0) F K := by
  have : getC (RV l) i 0 = some (.c (.int .i64 (l[i]).1)) := by simp [getC, RV, eRec, V.cells, h]
  rw [this]; simpa [Eng.asInt] using hk
theorem asR2 {l : List Rec} {i : Nat} (h : i < l.length) {F : Prop} {K : Int → Prop} (hk : K (l[i]).2) : Eng.asInt .i64 (getC (RV l) i 1) F K := by
  have : getC (RV l) i 1 = some (.c (.int .i64 (l[i]).2)) := by simp [getC, RV, eRec, V.cells, h]
  rw [this]; simpa [Eng.asInt] using hk
theorem asT1 {l : List Ty} {i : Nat} (h : i < l.length) {F : Prop} {K : Int → Prop} (hk : K (l[i]).1) : Eng.asInt .i64 (getC (TV l) i 0) F K := by
  have : getC (TV l) i 0 = some (.c (.int .i64 (l[i]).1)) := by simp [getC, TV, eTy, V.cells, h]
  rw [this]; simpa [Eng.asInt] using hk
theorem asT2 {l : List Ty} {i : Nat} (h : i < l.length) {F : Prop} {K : Bool → Prop} (hk : K (l[i]).2.1) : Eng.asBool (getC (TV l) i 1) F K := by
  have : getC (TV l) i 1 = some (.c (.bool (l[i]).2.1)) := by simp [getC, TV, eTy, V.cells, h]
  rw [this]; simpa [Eng.asBool] using hk
theorem asT3 {l : List Ty} {i : Nat} (h : i < l.length) {F : Prop} {K : ByteArray → Prop} (hk : K (S (l[i]).2.2)) : Eng.asStr (getC (TV l) i 2) F K := by
  have : getC (TV l) i 2 = some (.c (.string (S (l[i]).2.2))) := by simp [getC, TV, eTy, V.cells, h]
  rw [this]; simpa [Eng.asStr] using hk
theorem w64_hi {n : Int} (h0 : 9223372036854775807 < n) (h1 : n ≤ 18446744073709551615) : w64 n = n - 18446744073709551616 := by
  simp only [w64, IntKind.wrap, IntKind.bits, IntKind.signed]
  try simp
  try omega
theorem w64_lo {n : Int} (h0 : -18446744073709551616 ≤ n) (h1 : n < -9223372036854775808) : w64 n = n + 18446744073709551616 := by
  simp only [w64, IntKind.wrap, IntKind.bits, IntKind.signed]
  try simp
  try omega
def i64r (n : Int) : Prop := -9223372036854775808 ≤ n ∧ n ≤ 9223372036854775807
instance (n : Int) : Decidable (i64r n) := inferInstanceAs (Decidable (_ ∧ _))
def recI (l : List Rec) : Prop := ∀ c ∈ l, i64r c.1 ∧ i64r c.2
theorem ssub (a b : Int) (ha : i64r a) (hb : i64r b) {K : Int → Bool → Prop} (h1 : i64r (a - b) → K (a - b) true) (h2 : ¬ i64r (a - b) → K 0 false) : Xnum_Sub a b K := by
  unfold Xnum_Sub Ynum_Sub
  unfold i64r at *
  simp only [lt]
  by_cases e : -9223372036854775808 ≤ a - b ∧ a - b ≤ 9223372036854775807
  · rw [w64_in e.1 e.2]
    have : (!decide (a - b < a) == decide (b > 0)) = false := by
      by_cases hb0 : b > 0
      · simp [hb0]; omega
      · simp [hb0]; omega
    rw [this]
    exact h1 e
  · by_cases hb0 : b > 0
    · rw [w64_lo (by omega) (by omega)]
      have : (!decide (a - b + 18446744073709551616 < a) == decide (b > 0)) = true := by simp [hb0]; omega
      rw [this, if_pos rfl, if_pos (by simp; omega)]
      exact h2 e
    · rw [w64_hi (by omega) (by omega)]
      have : (!decide (a - b - 18446744073709551616 < a) == decide (b > 0)) = true := by simp [hb0]; omega
      rw [this, if_pos rfl, if_pos (by simp; omega)]
      exact h2 e
theorem recOk_cons (k : Nat) (b c : Rec) (r : List Rec) : recOk k b (c :: r) = true ↔ (k ≤ 200 ∧ 0 ≤ c.1 ∧ ((c.2 - b.2 = 0 ∧ r = []) ∨ c.2 - b.2 = 1 ∨ c.2 - b.2 = -1) ∧ (k = 0 ∨ ((c.2 - b.2 = 0 ∧ r = []) ∧ c.1 - b.1 ≥ 0) ∨ (¬ (c.2 - b.2 = 0 ∧ r = []) ∧ c.1 - b.1 ≥ 2419199))) ∧ recOk (k + 1) c r = true := by
  rw [recOk]
  simp only [Bool.and_eq_true, Bool.or_eq_true, decide_eq_true_eq, List.isEmpty_iff]
  by_cases he : c.2 - b.2 = 0 ∧ r = []
  · simp only [he, and_self, if_true, true_or, true_and, not_true, false_and, or_false]
    constructor
    · rintro ⟨⟨⟨⟨h1, h2⟩, _⟩, h4⟩, h5⟩; exact ⟨⟨h1, h2, h4⟩, h5⟩
    · rintro ⟨⟨h1, h2, h4⟩, h5⟩; exact ⟨⟨⟨⟨h1, h2⟩, trivial⟩, h4⟩, h5⟩
  · simp only [he, false_or, if_false, false_and, not_false_iff, true_and]
    constructor
    · rintro ⟨⟨⟨⟨h1, h2⟩, h3⟩, h4⟩, h5⟩; exact ⟨⟨h1, h2, h3, h4⟩, h5⟩
    · rintro ⟨⟨h1, h2, h3, h4⟩, h5⟩; exact ⟨⟨⟨⟨h1, h2⟩, h3⟩, h4⟩, h5⟩
theorem sRecRight (l : List Rec) (hi : recI l) (hlen : l.length ≤ 100000) {K : Bool → Prop} (h : K (recRight l)) : Xrecord_Right (RV l) K := by
  unfold Xrecord_Right Yrecord_Right Xrecord_Check Yrecord_Check
  rw [RV_len]
  refine lp_ind (fun x => (l.length : Nat) - x.1.2.2.2.2.2.2.1.toNat) (fun x => ∃ (j : Nat) (b : Rec), j ≤ l.length ∧ x = ((RV l, (0 : Int), (0 : Int), (), RV l, (l.length : Int), (j : Int), ()), (b.1, b.2, ()), ()) ∧ recOk j b (l.drop j) = recRight l ∧ (0 < j → 0 ≤ b.1) ∧ i64r b.1 ∧ i64r b.2) ?_ ⟨0, (-2419199, 0), by omega, rfl, rfl, by omega, by unfold i64r; decide, by unfold i64r; decide⟩
  rintro x ⟨j, b, hj, rfl, hok, hb0, hb1, hb2⟩ k hk
  unfold Lrecord_Check_0
  simp only [decide_eq_true_eq, RV_len]
  by_cases e : j = l.length
  · rw [if_neg (by omega)]
    have : recRight l = true := by rw [← hok, e, List.drop_length]; rfl
    rw [this] at h
    exact h
  · have hj' : j < l.length := by omega
    obtain ⟨hc1, hc2⟩ := hi l[j] (List.getElem_mem hj')
    rw [Int.toNat_natCast, if_pos (by omega), if_pos (by omega)]
    refine asR1 hj' (asR2 hj' ?_)
    have hd : l.drop j = l[j] :: l.drop (j + 1) := List.drop_eq_getElem_cons hj'
    rw [hd] at hok
    have hre : l.drop (j + 1) = [] ↔ j + 1 = l.length := by rw [List.drop_eq_nil_iff]; omega
    have hcons := recOk_cons j b l[j] (l.drop (j + 1))
    rw [hre, hok] at hcons
    generalize l[j] = c at *
    have e1 : w64 ((j : Int) + 1) = ((j + 1 : Nat) : Int) := by rw [w64_in (by omega) (by omega)]; omega
    have e2 : w64 ((l.length : Int) - 1) = (l.length : Int) - 1 := w64_in (by omega) (by omega)
    have bad : ¬ (j ≤ 200 ∧ 0 ≤ c.1 ∧ ((c.2 - b.2 = 0 ∧ j + 1 = l.length) ∨ c.2 - b.2 = 1 ∨ c.2 - b.2 = -1) ∧ (j = 0 ∨ ((c.2 - b.2 = 0 ∧ j + 1 = l.length) ∧ c.1 - b.1 ≥ 0) ∨ (¬ (c.2 - b.2 = 0 ∧ j + 1 = l.length) ∧ c.1 - b.1 ≥ 2419199))) → K false := fun hn => by
      have : recRight l = false := by
        cases hr : recRight l
        · rfl
        · exact absurd (hcons.1 hr).1 hn
      rw [this] at h; exact h
    have good : (j ≤ 200 ∧ 0 ≤ c.1 ∧ ((c.2 - b.2 = 0 ∧ j + 1 = l.length) ∨ c.2 - b.2 = 1 ∨ c.2 - b.2 = -1) ∧ (j = 0 ∨ ((c.2 - b.2 = 0 ∧ j + 1 = l.length) ∧ c.1 - b.1 ≥ 0) ∨ (¬ (c.2 - b.2 = 0 ∧ j + 1 = l.length) ∧ c.1 - b.1 ≥ 2419199))) →
        k ((RV l, (0 : Int), (0 : Int), (), RV l, (l.length : Int), ((j + 1 : Nat) : Int), ()), (c.1, c.2, ()), ()) := fun hg => by
      refine hk _ ⟨j + 1, c, by omega, rfl, ?_, fun _ => hg.2.1, hc1, hc2⟩ ?_
      · rw [Bool.eq_iff_iff]
        exact ⟨fun hr => hcons.2 ⟨hg, hr⟩, fun hr => (hcons.1 hr).2⟩
      · show l.length - ((j + 1 : Nat) : Int).toNat < l.length - ((j : Nat) : Int).toNat
        omega
    clear hcons hok hk h hd hre
    rw [e1, e2]
    have ew : 0 < j → 0 ≤ c.1 → w64 (c.1 - b.1) = c.1 - b.1 := fun h1 h2 => by
      have := hb0 h1
      unfold i64r at *
      exact w64_in (by omega) (by omega)
    refine ssub c.2 b.2 hc2 hb2 (fun hf => ?_) fun hf => ?_
    · generalize c.2 - b.2 = s at *
      simp only [if_true, beq_iff_eq, Bool.not_eq_true', beq_eq_false_iff_ne, ne_eq, bne_iff_ne, not_true, if_false, Bool.not_true, Bool.false_eq_true]
      repeat' split
      all_goals first
        | (refine bad ?_; omega)
        | (refine good ?_; omega)
        | (refine bad ?_; rw [ew (by omega) (by omega)] at *; omega)
        | (refine good ?_; rw [ew (by omega) (by omega)] at *; omega)
    · simp only [if_true, if_false, Bool.not_false, Bool.false_eq_true]
      unfold i64r at hf
      repeat' split
      all_goals (refine bad ?_; omega)
end Go.Proofs.YtenaflbcnkalbaaGreatDoor
end
section
set_option linter.unusedVariables false
set_option linter.unusedSimpArgs false
namespace Go.Proofs.YtenaflbcnkalbaaGreatDoor
open Go Go.Proofs.YtenaflbcnkalbaaGreatDoor.Eng Go.Proofs.YtenaflbcnkalbaaGreatDoor.Pl
set_option linter.unusedVariables false
set_option linter.unusedSimpArgs false
theorem sHasPrefix (l : List UInt8) (c : UInt8) {K} (h : K (l.head? == some c)) : Xinternal_stringslite_HasPrefix (S l) (S [c]) K := by
  unfold Xinternal_stringslite_HasPrefix Yinternal_stringslite_HasPrefix
  simp only [S_size, S_extract, S_toList, decide_eq_true_eq, ge_iff_le, List.length_singleton]
  cases l with
  | nil => exact ifF (by simp) h
  | cons a l =>
    refine ifT (by simp; omega) (ifT (by simp; omega) ?_)
    have e : ((List.take (Int.toNat (((1 : Nat) : Int)) - 0) (List.drop 0 (a :: l)) == [c]) : Bool) = ((a :: l).head? == some c) := by
      simp
    rw [e]; exact h
theorem sCutPrefix (l : List UInt8) (c : UInt8) {K} (h : K (S (cutP c l).1) (cutP c l).2) : Xstrings_CutPrefix (S l) (S [c]) K := by
  unfold Xstrings_CutPrefix Ystrings_CutPrefix Xinternal_stringslite_CutPrefix Yinternal_stringslite_CutPrefix
  refine sHasPrefix l c ?_
  unfold cutP at h
  by_cases e : l.head? = some c
  · rw [if_pos e] at h
    refine ifF (by simp [e]) ?_
    have hl : 1 ≤ l.length := by cases l <;> simp at e ⊢
    simp only [S_size, S_extract, List.length_singleton]
    refine ifT (by omega) (ifT (by omega) ?_)
    have e2 : (l.drop (Int.toNat ((1 : Nat) : Int))).take (Int.toNat (l.length : Int) - Int.toNat ((1 : Nat) : Int)) = l.tail := by
      rw [List.take_of_length_le (by simp)]; simp
    rw [e2]; exact h
  · rw [if_neg e] at h
    exact ifT (by simp [e]) h
theorem sIndex (l : List UInt8) (c : UInt8) {K} (h : K (if nl (· == c) l < l.length then (nl (· == c) l : Int) else -1)) : Xinternal_stringslite_Index (S l) (S [c]) K := by
  unfold Xinternal_stringslite_Index Yinternal_stringslite_Index
  simp only [S_size, S_toList, beq_iff_eq, List.length_singleton]
  refine ifF (by decide) (ifC (fun e => ?_) fun _ => ifT rfl (ifT (by decide) ?_))
  · subst e
    have : nl (· == c) [c] = 0 := by rw [nl_cons]; simp
    rw [this] at h; exact h
  · unfold XindexByte
    rw [indexByte_nl, S_data]
    have : (Eng.bAt (S [c]) 0).toNat.toUInt8 = c := by rw [bAt0]; simp
    rw [this]; exact h
theorem sCut (l : List UInt8) (c : UInt8) (hl : l.length ≤ 140737488351232) {K} (h : K (S (splitL c l).1) (S (splitL c l).2.1) (splitL c l).2.2) : Xstrings_Cut (S l) (S [c]) K := by
  unfold Xstrings_Cut Ystrings_Cut Xinternal_stringslite_Cut Yinternal_stringslite_Cut
  refine sIndex l c ?_
  unfold splitL at h
  simp only [S_size, S_extract, List.length_singleton, decide_eq_true_eq, ge_iff_le]
  by_cases e : nl (· == c) l < l.length
  · rw [if_pos e] at h
    simp only [if_pos e]
    rw [w64_in (by omega) (by omega)]
    refine ifT (by omega) (ifT (by omega) (ifT (by omega) (ifT (by omega) (ifT (by omega) ?_))))
    have e1 : Int.toNat ((nl (· == c) l : Int) + ((1 : Nat) : Int)) = nl (· == c) l + 1 := by omega
    have e2 : Int.toNat ((nl (· == c) l : Int)) = nl (· == c) l := by omega
    rw [e1, e2]
    rw [show (l.drop (nl (· == c) l + 1)).take (Int.toNat (l.length : Int) - (nl (· == c) l + 1)) = l.drop (nl (· == c) l + 1) from List.take_of_length_le (by simp)]
    exact h
  · rw [if_neg e] at h
    simp only [if_neg e]
    exact ifF (by omega) h
theorem sTrimPrefix (l : List UInt8) (c : UInt8) {K} (h : K (S (cutP c l).1)) : Xstrings_TrimPrefix (S l) (S [c]) K := by
  unfold Xstrings_TrimPrefix Ystrings_TrimPrefix Xinternal_stringslite_TrimPrefix Yinternal_stringslite_TrimPrefix
  refine sHasPrefix l c ?_
  unfold cutP at h
  by_cases e : l.head? = some c
  · rw [if_pos e] at h
    refine ifT (by simp [e]) ?_
    have hl : 1 ≤ l.length := by cases l <;> simp at e ⊢
    simp only [S_size, S_extract, List.length_singleton]
    refine ifT (by omega) (ifT (by omega) ?_)
    have e2 : (l.drop (Int.toNat ((1 : Nat) : Int))).take (Int.toNat (l.length : Int) - Int.toNat ((1 : Nat) : Int)) = l.tail := by
      rw [List.take_of_length_le (by simp)]; simp
    rw [e2]; exact h
  · rw [if_neg e] at h
    exact ifF (by simp [e]) h
theorem sIndexFunc {x : Int → (Bool → Prop) → Prop} (q : UInt8 → Bool) (hx : ∀ (c : UInt8) (K : Bool → Prop), c.toNat < 128 → K (q c) → x (c.toNat : Int) K) (hx' : ∀ (n : Nat) (K : Bool → Prop), 128 ≤ n → K true → x (n : Int) K)
    (hq : ∀ c : UInt8, 128 ≤ c.toNat → q c = true) (l : List UInt8) {K : Int → Prop} (h : K (if nl q l < l.length then (nl q l : Int) else -1)) : Ystrings_indexFunc x (S l) true K := by
  unfold Ystrings_indexFunc
  refine lp_ind (fun st => l.length - st.2.1.2) (fun st => st.1.2.1 = true ∧ st.2.1.1 = S l ∧ st.2.1.2 ≤ l.length ∧ ∀ c ∈ l.take st.2.1.2, q c = false) ?_ ⟨rfl, rfl, Nat.zero_le _, by simp⟩
  rintro ⟨⟨⟨_, _⟩, b, r, _, _⟩, ⟨s, pos⟩, _⟩ ⟨h1, h2, h3, h4⟩ k hk
  simp only at h1 h2 h3 h4 hk
  subst h1; subst h2
  unfold Lstrings_indexFunc_0
  simp only [S_size]
  refine ifC (fun hp => ?_) fun hp => ?_
  · by_cases hlo : l[pos].toNat < 128
    · simp only [decode_lo l pos hp hlo]
      refine hx _ _ hlo ?_
      refine ifC (fun hb => ?_) fun hb => ?_
      · have hn : nl q l = pos := nl_of q l pos h3 h4 fun _ => by simpa using hb
        rw [hn, if_pos hp] at h; exact h
      · refine hk _ ⟨rfl, rfl, hp, fun c hc => ?_⟩ (by simp only; omega)
        rw [List.take_add_one, List.mem_append] at hc
        rcases hc with hc | hc
        · exact h4 c hc
        · simp [List.getElem?_eq_getElem hp] at hc
          subst hc; simpa using hb
    · obtain ⟨d1, d2⟩ := decode_hi l pos hp (by omega)
      refine hx' _ _ d1 (ifT rfl ?_)
      have hn : nl q l = pos := nl_of q l pos h3 h4 fun _ => hq _ (by omega)
      rw [hn, if_pos hp] at h; exact h
  · have hpos : pos = l.length := by omega
    have hn : nl q l = l.length := nl_of q l _ (Nat.le_refl _) (by rw [← hpos]; exact h4) fun h => by omega
    rw [hn, if_neg (by omega)] at h; exact h
theorem sgood (n : Int) {K} (h : K (decide ((97 ≤ n ∧ n ≤ 122) ∨ (65 ≤ n ∧ n ≤ 90) ∨ (48 ≤ n ∧ n ≤ 57) ∨ n = 43 ∨ n = 45))) : Xabbr_good n K := by
  unfold Xabbr_good Yabbr_good
  simp only [decide_eq_true_eq, beq_iff_eq, ge_iff_le]
  repeat' (first | refine ifT (by omega) ?_ | refine ifF (by omega) ?_ | refine ifC (fun _ => ?_) (fun _ => ?_))
  all_goals (refine cast (congrArg K ?_) h; first | (rw [decide_eq_true_eq]; omega) | (rw [decide_eq_false_iff_not]; omega) | (apply Bool.eq_iff_iff.2; rw [decide_eq_true_eq, beq_iff_eq]; omega))
theorem sbad (n : Int) {K} (h : K (!decide ((97 ≤ n ∧ n ≤ 122) ∨ (65 ≤ n ∧ n ≤ 90) ∨ (48 ≤ n ∧ n ≤ 57) ∨ n = 43 ∨ n = 45))) : Xabbr_Right_1 n K := by
  unfold Xabbr_Right_1 Yabbr_Right_1
  exact sgood n h
theorem sabbr (l : List UInt8) {K} (h : K (abbrL l)) : Xabbr_Right (S l) K := by
  unfold Xabbr_Right Yabbr_Right
  unfold abbrL at h
  simp only [decide_eq_true_eq, ge_iff_le, S_size]
  by_cases e : 3 ≤ l.length ∧ l.length ≤ 16
  · refine ifT (by omega) (ifT (by omega) ?_)
    unfold Xstrings_ContainsFunc Ystrings_ContainsFunc Xstrings_IndexFunc Ystrings_IndexFunc Xstrings_indexFunc
    refine sIndexFunc badC (fun c K hc h => sbad _ (cast (congrArg K ?_) h)) (fun n K hn h => sbad _ (cast (congrArg K ?_) h)) (fun c hc => ?_) l ?_
    · unfold badC; apply Bool.eq_iff_iff.2; simp; omega
    · symm; simp; omega
    · unfold badC; simp; omega
    · rw [decide_eq_true e, Bool.true_and, nl_any] at h
      by_cases e2 : nl badC l < l.length
      · rw [if_pos e2]; rw [decide_eq_true e2] at h
        refine cast (congrArg K ?_) h; simp
      · rw [if_neg e2]; rw [decide_eq_false e2] at h
        refine cast (congrArg K ?_) h; simp
  · rw [decide_eq_false e, Bool.false_and] at h
    exact ifC (fun _ => ifF (by omega) h) fun _ => h
end Go.Proofs.YtenaflbcnkalbaaGreatDoor
end
section
set_option linter.unusedVariables false
set_option linter.unusedSimpArgs false
namespace Go.Proofs.YtenaflbcnkalbaaGreatDoor
open Go Go.Proofs.YtenaflbcnkalbaaGreatDoor.Eng Go.Proofs.YtenaflbcnkalbaaGreatDoor.Pl
set_option linter.unusedVariables false
set_option linter.unusedSimpArgs false
theorem dl_of (l : List UInt8) (k : Nat) (hk : k ≤ l.length) (h1 : ∀ c ∈ l.take k, isDig c = true) (h2 : ∀ h : k < l.length, isDig l[k] = false) : dl l = k := by
  have := nl_of (fun c => !isDig c) l k hk (fun c hc => by simp [h1 c hc]) (fun h => by simp [h2 h])
  rw [← this]; unfold nl dl; simp
theorem sdigits (l : List UInt8) {K} (h : K (dl l : Int)) : Xrule_digits (S l) K := by
  unfold Xrule_digits Yrule_digits
  refine lp_ind (fun st => l.length - st.2.1.2) (fun st => st.1.1 = S l ∧ st.2.1.1 = S l ∧ st.2.1.2 ≤ l.length ∧ ∀ c ∈ l.take st.2.1.2, isDig c = true) ?_ ⟨rfl, rfl, Nat.zero_le _, by simp⟩
  rintro ⟨⟨a0, r, _, _⟩, ⟨s, pos⟩, _⟩ ⟨h1, h2, h3, h4⟩ k hk
  simp only at h1 h2 h3 h4 hk
  subst h1; subst h2
  unfold Lrule_digits_0
  simp only [S_size, decide_eq_true_eq, gt_iff_lt]
  refine ifC (fun hp => ?_) fun hp => ?_
  · by_cases hlo : l[pos].toNat < 128
    · simp only [decode_lo l pos hp hlo]
      by_cases hd : isDig l[pos] = true
      · have hd' := hd
        unfold isDig at hd'
        simp at hd'
        refine ifF (by omega) (ifF (by omega) ?_)
        refine hk _ ⟨rfl, rfl, hp, fun c hc => ?_⟩ (by simp only; omega)
        rw [List.take_add_one, List.mem_append] at hc
        rcases hc with hc | hc
        · exact h4 c hc
        · simp [List.getElem?_eq_getElem hp] at hc
          subst hc; exact hd
      · have hn : dl l = pos := dl_of l pos h3 h4 fun _ => by simpa using hd
        have hd' := hd
        unfold isDig at hd'
        simp at hd'
        rw [hn] at h
        exact ifC (fun _ => h) fun _ => ifT (by omega) h
    · obtain ⟨d1, d2⟩ := decode_hi l pos hp (by omega)
      have hn : dl l = pos := dl_of l pos h3 h4 fun _ => by unfold isDig; simp; omega
      rw [hn] at h
      exact ifF (by omega) (ifT (by omega) h)
  · have hpos : pos = l.length := by omega
    have hn : dl l = l.length := dl_of l _ (Nat.le_refl _) (by rw [← hpos]; exact h4) fun h => by omega
    rw [hn] at h; exact h
theorem satoi (l : List UInt8) (hne : l ≠ []) (hd : ∀ c ∈ l, isDig c = true) (hl : l.length ≤ 18) {K} (h : K (valL l : Int) .nilIface) : Xatoi (S l) K :=
  ⟨_, by rw [S_size]; exact hl, by rw [S_data]; exact atoi_val l hne hd, h⟩
theorem ssixty (l : List UInt8) {K} (h : K (sixtyL l).1 (S (sixtyL l).2.1) (sixtyL l).2.2) : Xrule_sixty (S l) K := by
  unfold Xrule_sixty Yrule_sixty
  simp only [S_size, S_extract, decide_eq_true_eq, gt_iff_lt, bne_iff_ne, ne_eq]
  match l, h with
  | [], h => exact ifT (by simp) h
  | [_], h => exact ifT (by simp) h
  | [_, _], h => exact ifT (by simp) h
  | c :: a :: b :: r, h =>
    have hlen : (c :: a :: b :: r).length = r.length + 3 := rfl
    rw [hlen]
    refine ifF (by omega) (ifT (by omega) ?_)
    rw [bAt0, bAt1]
    simp only [sixtyL] at h
    by_cases hc : c = 58
    · subst hc
      refine ifF (by simp) (ifT (by omega) (ifT (by omega) ?_))
      have e1 : ((58 :: a :: b :: r).drop 1).take (Int.toNat ((r.length + 3 : Nat) : Int) - 1) = a :: b :: r := by
        rw [List.drop_succ_cons, List.drop_zero, List.take_of_length_le (by simp; omega)]
      rw [e1]
      refine sdigits _ ?_
      rw [dl_cons, dl_cons]
      by_cases ha : isDig a = true
      · by_cases hb : isDig b = true
        · rw [if_pos ha, if_pos hb]
          refine ifF (by omega) (ifT (by omega) ?_)
          by_cases h5 : a.toNat ≤ 53
          · rw [if_pos ⟨rfl, ha, hb, h5⟩] at h
            refine ifF (by omega) (ifT (by omega) ?_)
            have e2 : ((58 :: a :: b :: r).drop 1).take (3 - 1) = [a, b] := rfl
            rw [e2]
            refine satoi [a, b] (by simp) (by simp [ha, hb]) (by simp) (ifT (by omega) (ifT (by omega) ?_))
            have e3 : ((58 :: a :: b :: r).drop 3).take (Int.toNat ((r.length + 3 : Nat) : Int) - 3) = r := by
              rw [show (58 :: a :: b :: r).drop 3 = r from rfl, List.take_of_length_le (by omega)]
            rw [e3]
            unfold isDig at ha hb
            simp at ha hb
            have e4 : (valL [a, b] : Int) = 10 * (a.toNat - 48) + (b.toNat - 48) := by simp [valL]; omega
            rw [e4]; exact h
          · rw [if_neg (by rintro ⟨_, _, _, h⟩; exact h5 h)] at h
            exact ifT (by omega) h
        · rw [if_neg (by rintro ⟨_, _, h, _⟩; exact hb h)] at h
          rw [if_pos ha, if_neg hb]
          exact ifT (by omega) h
      · rw [if_neg (by rintro ⟨_, h, _⟩; exact ha h)] at h
        rw [if_neg ha]
        exact ifT (by omega) h
    · rw [if_neg (by rintro ⟨h, _⟩; exact hc h)] at h
      refine ifT (fun h => hc (u8_eq ?_)) h
      have : c.toNat = 58 := by omega
      exact this
theorem smore (p : Int × List UInt8 × Bool) {K} (h : K (moreL p).1 (S (moreL p).2.1) (moreL p).2.2) : Xrule_more (S p.2.1) p.2.2 K := by
  unfold Xrule_more Yrule_more
  unfold moreL at h
  by_cases e : p.2.2 = true
  · rw [if_pos e] at h
    exact ifF (by simp [e]) (ssixty _ h)
  · rw [if_neg e] at h
    exact ifT (by simpa using e) h
theorem more_bd (t : List UInt8) : 0 ≤ (moreL (sixtyL t)).1 ∧ (moreL (sixtyL t)).1 ≤ 59 := by
  unfold moreL; split
  · exact sixty_bd _
  · simp
theorem stime (l : List UInt8) (hl : l.length ≤ 140737488351232) {K} (h : K (timeL l).1 (S (timeL l).2.1) (timeL l).2.2) : Xrule_Time (S l) K := by
  unfold Xrule_Time Yrule_Time
  have key : ∀ (t : List UInt8) (sg : Int), (sg = 1 ∨ sg = -1) → t.length ≤ l.length → signL l = (sg, t) →
      (dl t = 0 → K 0 (S l) false) ∧ (dl t ≠ 0 → ∃ v k : Nat, hourL t = (v, k) ∧ v ≤ 167 ∧ 1 ≤ k ∧ k ≤ dl t ∧ k ≤ 3 ∧
        K (sg * ((v : Int) * 3600 + (sixtyL (t.drop k)).1 * 60 + (moreL (sixtyL (t.drop k))).1)) (S (moreL (sixtyL (t.drop k))).2.1) true) := by
    intro t sg hsg ht he
    unfold timeL at h
    rw [he] at h
    refine ⟨fun h0 => by rw [if_pos h0] at h; exact h, fun h0 => ?_⟩
    rw [if_neg h0] at h
    obtain ⟨b1, b2, b3, b4⟩ := hour_bd t
    exact ⟨_, _, rfl, b1, b4 h0, b2, b3, h⟩
  have mn : ∀ t : List UInt8, (if (3 : Int) < (dl t : Int) then (3 : Int) else (dl t : Int)) = ((min (dl t) 3 : Nat) : Int) := fun t => by split <;> omega
  have hval : ∀ t : List UInt8, dl t ≠ 0 → ∀ {K : Int → Value → Prop}, K (valL (t.take (min (dl t) 3)) : Int) .nilIface → Xatoi (S ((t.drop 0).take (Int.toNat ((min (dl t) 3 : Nat) : Int) - 0))) K := fun t h0 K hK => by
    rw [List.drop_zero, Nat.sub_zero, Int.toNat_natCast]
    have hlen : (t.take (min (dl t) 3)).length = min (dl t) 3 := by rw [List.length_take]; have := dl_le t; omega
    exact satoi _ (fun e => by rw [e] at hlen; simp at hlen; omega) (take_dl_dig t _ (Nat.min_le_left _ _)) (by omega) hK
  have tdiv : ∀ v : Nat, Int.tdiv (v : Int) 10 = ((v / 10 : Nat) : Int) := fun v => by rw [Int.tdiv_eq_ediv_of_nonneg (by omega)]; rfl
  have fin : ∀ (t : List UInt8) (k : Nat), (t.drop k).take (t.length - k) = t.drop k := fun t k => List.take_of_length_le (by simp)
  refine sTrimPrefix l 45 ?_
  by_cases h45 : l.head? = some 45
  · obtain ⟨t, rfl⟩ : ∃ t, l = 45 :: t := by cases l with
      | nil => simp at h45
      | cons a t => simp at h45; subst h45; exact ⟨t, rfl⟩
    have e : (cutP 45 (45 :: t)).1 = t := rfl
    rw [e]
    obtain ⟨k1, k2⟩ := key t (-1) (.inr rfl) (by simp) rfl
    have hdl := dl_le t
    simp only [S_size, S_extract, beq_iff_eq, decide_eq_true_eq, gt_iff_lt]
    simp only [List.length_cons] at hl ⊢
    refine ifF (by omega) (sdigits _ ?_)
    rw [mn]
    refine ifC (fun h0 => k1 (by omega)) fun h0 => ?_
    have h0' : dl t ≠ 0 := by omega
    obtain ⟨v, kk, hh, b1, b2, b3, b4, hK⟩ := k2 h0'
    refine ifT (by omega) (ifT (by omega) (hval t h0' ?_))
    unfold hourL at hh
    by_cases hg : valL (t.take (min (dl t) 3)) > 167
    · rw [if_pos hg] at hh
      obtain ⟨rfl, rfl⟩ : _ = v ∧ _ = kk := by simpa using hh
      refine ifT (by omega) (ifT (by omega) ?_)
      rw [w64_in (n := ((min (dl t) 3 : Nat) : Int) - 1) (by omega) (by omega), show ((min (dl t) 3 : Nat) : Int) - 1 = ((min (dl t) 3 - 1 : Nat) : Int) by omega]
      refine ifT (by omega) ?_
      simp only [lt, Int.toNat_natCast, fin, tdiv]
      refine ssixty _ (smore _ ?_)
      have hs := sixty_bd (t.drop (min (dl t) 3 - 1))
      have hm := more_bd (t.drop (min (dl t) 3 - 1))
      generalize valL (t.take (min (dl t) 3)) / 10 = v at *
      generalize (sixtyL (t.drop (min (dl t) 3 - 1))).1 = a at *
      generalize (moreL (sixtyL (t.drop (min (dl t) 3 - 1)))).1 = b at *
      rw [w64_in (n := (v : Int)) (by omega) (by omega), w64_in (n := (v : Int) * 3600) (by omega) (by omega), w64_in (n := a * 60) (by omega) (by omega), w64_in (n := (v : Int) * 3600 + a * 60) (by omega) (by omega), w64_in (n := (v : Int) * 3600 + a * 60 + b) (by omega) (by omega), w64_in (by omega) (by omega)]
      exact hK
    · rw [if_neg hg] at hh
      obtain ⟨rfl, rfl⟩ : _ = v ∧ _ = kk := by simpa using hh
      refine ifF (by omega) (ifT (by omega) (ifT (by omega) ?_))
      simp only [lt, Int.toNat_natCast, fin]
      refine ssixty _ (smore _ ?_)
      have hs := sixty_bd (t.drop (min (dl t) 3))
      have hm := more_bd (t.drop (min (dl t) 3))
      generalize valL (t.take (min (dl t) 3)) = v at *
      generalize (sixtyL (t.drop (min (dl t) 3))).1 = a at *
      generalize (moreL (sixtyL (t.drop (min (dl t) 3)))).1 = b at *
      rw [w64_in (n := (v : Int) * 3600) (by omega) (by omega), w64_in (n := a * 60) (by omega) (by omega), w64_in (n := (v : Int) * 3600 + a * 60) (by omega) (by omega), w64_in (n := (v : Int) * 3600 + a * 60 + b) (by omega) (by omega), w64_in (by omega) (by omega)]
      exact hK
  · have e : (cutP 45 l).1 = l := by unfold cutP; rw [if_neg h45]
    rw [e]
    refine ifT (by simp) (sTrimPrefix l 43 ?_)
    have hs : ∃ t, signL l = (1, t) ∧ (cutP 43 l).1 = t ∧ t.length ≤ l.length := by
      unfold signL cutP
      cases l with
      | nil => exact ⟨[], rfl, rfl, Nat.le_refl _⟩
      | cons a r =>
        have ha : a ≠ 45 := by simpa using h45
        simp only [if_neg ha, List.head?_cons, Option.some.injEq, List.tail_cons]
        by_cases h43 : a = 43
        · simp [h43]
        · simp [h43]
    obtain ⟨t, h1, h2, h3⟩ := hs
    rw [h2]
    obtain ⟨k1, k2⟩ := key t 1 (.inl rfl) h3 h1
    have hdl := dl_le t
    simp only [S_size, S_extract, beq_iff_eq, decide_eq_true_eq, gt_iff_lt]
    refine sdigits _ ?_
    rw [mn]
    refine ifC (fun h0 => k1 (by omega)) fun h0 => ?_
    have h0' : dl t ≠ 0 := by omega
    obtain ⟨v, kk, hh, b1, b2, b3, b4, hK⟩ := k2 h0'
    refine ifT (by omega) (ifT (by omega) (hval t h0' ?_))
    unfold hourL at hh
    by_cases hg : valL (t.take (min (dl t) 3)) > 167
    · rw [if_pos hg] at hh
      obtain ⟨rfl, rfl⟩ : _ = v ∧ _ = kk := by simpa using hh
      refine ifT (by omega) (ifT (by omega) ?_)
      rw [w64_in (n := ((min (dl t) 3 : Nat) : Int) - 1) (by omega) (by omega), show ((min (dl t) 3 : Nat) : Int) - 1 = ((min (dl t) 3 - 1 : Nat) : Int) by omega]
      refine ifT (by omega) ?_
      simp only [lt, Int.toNat_natCast, fin, tdiv]
      refine ssixty _ (smore _ ?_)
      have hs := sixty_bd (t.drop (min (dl t) 3 - 1))
      have hm := more_bd (t.drop (min (dl t) 3 - 1))
      generalize valL (t.take (min (dl t) 3)) / 10 = v at *
      generalize (sixtyL (t.drop (min (dl t) 3 - 1))).1 = a at *
      generalize (moreL (sixtyL (t.drop (min (dl t) 3 - 1)))).1 = b at *
      rw [w64_in (n := (v : Int)) (by omega) (by omega), w64_in (n := (v : Int) * 3600) (by omega) (by omega), w64_in (n := a * 60) (by omega) (by omega), w64_in (n := (v : Int) * 3600 + a * 60) (by omega) (by omega), w64_in (n := (v : Int) * 3600 + a * 60 + b) (by omega) (by omega), w64_in (by omega) (by omega)]
      exact hK
    · rw [if_neg hg] at hh
      obtain ⟨rfl, rfl⟩ : _ = v ∧ _ = kk := by simpa using hh
      refine ifF (by omega) (ifT (by omega) (ifT (by omega) ?_))
      simp only [lt, Int.toNat_natCast, fin]
      refine ssixty _ (smore _ ?_)
      have hs := sixty_bd (t.drop (min (dl t) 3))
      have hm := more_bd (t.drop (min (dl t) 3))
      generalize valL (t.take (min (dl t) 3)) = v at *
      generalize (sixtyL (t.drop (min (dl t) 3))).1 = a at *
      generalize (moreL (sixtyL (t.drop (min (dl t) 3)))).1 = b at *
      rw [w64_in (n := (v : Int) * 3600) (by omega) (by omega), w64_in (n := a * 60) (by omega) (by omega), w64_in (n := (v : Int) * 3600 + a * 60) (by omega) (by omega), w64_in (n := (v : Int) * 3600 + a * 60 + b) (by omega) (by omega), w64_in (by omega) (by omega)]
      exact hK
end Go.Proofs.YtenaflbcnkalbaaGreatDoor
end
section
set_option linter.unusedVariables false
set_option linter.unusedSimpArgs false
namespace Go.Proofs.YtenaflbcnkalbaaGreatDoor
open Go Go.Proofs.YtenaflbcnkalbaaGreatDoor.Eng Go.Proofs.YtenaflbcnkalbaaGreatDoor.Pl
set_option linter.unusedVariables false
set_option linter.unusedSimpArgs false
theorem take_all (t : List UInt8) (k : Nat) : (t.drop k).take (t.length - k) = t.drop k := List.take_of_length_le (by simp)
theorem swithin (n a b : Int) {K} (h : K (decide (a ≤ n ∧ n ≤ b))) : Xrule_within n a b K := by
  unfold Xrule_within Yrule_within
  simp only [decide_eq_true_eq, ge_iff_le]
  refine ifC (fun h1 => cast (congrArg K ?_) h) fun h1 => cast (congrArg K ?_) h
  · simp [h1]
  · simp [h1]
theorem sruleRight (k a b c x : Int) {K} (h : K (rightR k a b c x)) : Xrule_Right (k, a, b, c, x, ()) K := by
  unfold Xrule_Right Yrule_Right
  simp only [beq_iff_eq, decide_eq_true_eq, gt_iff_lt]
  refine swithin _ _ _ ?_
  have fin : ∀ z : Bool, (z = true ↔ ((-604799 ≤ x ∧ x ≤ 604799) ∧ ((k = 0 ∧ 1 ≤ a ∧ a ≤ 12 ∧ 1 ≤ b ∧ b ≤ 5 ∧ 0 ≤ c ∧ c ≤ 6) ∨ (k = 1 ∧ 1 ≤ a ∧ a ≤ 365 ∧ b = 0 ∧ c = 0) ∨ (k = 2 ∧ 0 ≤ a ∧ a ≤ 365 ∧ b = 0 ∧ c = 0)))) → K z := fun z hz =>
    cast (congrArg K (Bool.eq_iff_iff.2 ((right_iff k a b c x).trans hz.symm))) h
  clear h
  refine ifC (fun k0 => ?_) fun k0 => ?_
  · refine ifC (fun hx => ?_) fun hx => fin _ ?_
    · refine swithin _ _ _ (ifC (fun ha => swithin _ _ _ (ifC (fun hb => swithin _ _ _ (fin _ ?_)) fun hb => fin _ ?_)) fun ha => fin _ ?_)
      all_goals (simp only [decide_eq_true_eq, Bool.false_eq_true, false_iff] at *; omega)
    · simp only [decide_eq_true_eq, Bool.false_eq_true, false_iff] at *; omega
  · refine ifC (fun k1 => ?_) fun k1 => ifC (fun k2 => ?_) fun k2 => fin _ (by simp only [Bool.false_eq_true, false_iff]; omega)
    · refine ifC (fun hx => ifC (fun ha => swithin _ _ _ (ifC (fun hb => ifC (fun hc => fin _ ?_) fun hc => fin _ ?_) fun hb => fin _ ?_)) fun ha => fin _ ?_) fun hx => fin _ ?_
      all_goals (simp only [decide_eq_true_eq, Bool.false_eq_true, false_iff, beq_iff_eq] at *; omega)
    · refine ifC (fun hx => swithin _ _ _ (ifC (fun hb => ifC (fun hc => fin _ ?_) fun hc => fin _ ?_) fun hb => fin _ ?_)) fun hx => fin _ ?_
      all_goals (simp only [decide_eq_true_eq, Bool.false_eq_true, false_iff, beq_iff_eq] at *; omega)
theorem snumber (l : List UInt8) (m : Nat) (hm : m ≤ 18) {K} (h : K (numberL l m).1 (S (numberL l m).2.1) (numberL l m).2.2) : Xrule_number (S l) (m : Int) K := by
  unfold Xrule_number Yrule_number
  refine sdigits _ ?_
  have hd := dl_le l
  unfold numberL at h
  simp only [beq_iff_eq, decide_eq_true_eq, gt_iff_lt, S_size, S_extract, Int.toNat_natCast, take_all, List.drop_zero, Nat.sub_zero]
  by_cases e : dl l = 0 ∨ m < dl l
  · rw [if_pos e] at h
    exact ifC (fun _ => h) fun _ => ifT (by omega) h
  · rw [if_neg e] at h
    refine ifF (by omega) (ifF (by omega) (ifT (by omega) (ifT (by omega) ?_)))
    have hlen : (l.take (dl l)).length = dl l := by rw [List.length_take]; omega
    exact satoi _ (fun e => by rw [e] at hlen; simp at hlen; omega) (take_dl_dig l _ (Nat.le_refl _)) (by omega) (ifT (by omega) (ifT (by omega) h))
theorem sweek (l : List UInt8) {K} (h : K (0, (weekL l).1, (weekL l).2.1, (weekL l).2.2.1, 0, ()) (S (weekL l).2.2.2.1) (weekL l).2.2.2.2) : Xrule_week (S l) K := by
  unfold Xrule_week Yrule_week
  refine snumber l 2 (by omega) (sCutPrefix _ _ (snumber _ 1 (by omega) (sCutPrefix _ _ (snumber _ 1 (by omega) ?_))))
  unfold weekL at h
  generalize numberL l 2 = p at *
  generalize cutP 46 p.2.1 = q at *
  generalize numberL q.1 1 = r at *
  generalize cutP 46 r.2.1 = t at *
  generalize numberL t.1 1 = u at *
  obtain ⟨p1, p2, p3⟩ := p
  obtain ⟨q1, q2⟩ := q
  obtain ⟨r1, r2, r3⟩ := r
  obtain ⟨t1, t2⟩ := t
  obtain ⟨u1, u2, u3⟩ := u
  simp only at h ⊢
  cases p3 <;> cases r3 <;> cases u3 <;> cases q2 <;> simpa using h
theorem sdate (l : List UInt8) {K} (h : K ((dateL l).1, (dateL l).2.1, (dateL l).2.2.1, (dateL l).2.2.2.1, 0, ()) (S (dateL l).2.2.2.2.1) (dateL l).2.2.2.2.2) : Xrule_date (S l) K := by
  unfold Xrule_date Yrule_date
  refine sCutPrefix _ _ ?_
  unfold dateL at h
  unfold cutP
  by_cases e : l.head? = some 77
  · rw [if_pos e] at h ⊢
    exact ifT rfl (sweek _ h)
  · rw [if_neg e] at h ⊢
    refine ifF (by simp) (sCutPrefix _ _ ?_)
    unfold cutP
    by_cases e2 : l.head? = some 74
    · rw [if_pos e2] at h ⊢
      exact ifT rfl (snumber _ 3 (by omega) h)
    · rw [if_neg e2] at h ⊢
      exact ifF (by simp) (snumber _ 3 (by omega) h)
theorem date_len (l : List UInt8) : (dateL l).2.2.2.2.1.length ≤ l.length := by
  obtain ⟨j, _, e, _⟩ := dateL_drop l
  rw [e, List.length_drop]; omega
theorem sruleParse (l : List UInt8) (hl : l.length ≤ 140737488351232) {K} (h : K ((parseL l).1, (parseL l).2.1, (parseL l).2.2.1, (parseL l).2.2.2.1, (parseL l).2.2.2.2.1, ()) (S (parseL l).2.2.2.2.2.1) (parseL l).2.2.2.2.2.2) : Xrule_Parse (S l) K := by
  unfold Xrule_Parse Yrule_Parse
  refine sdate _ (sCutPrefix _ _ ?_)
  have hlen := date_len l
  unfold parseL at h
  generalize dateL l = d at *
  obtain ⟨dk, da, db, dc, dt, ok⟩ := d
  simp only at h hlen ⊢
  unfold cutP
  by_cases e : dt.head? = some 47
  · rw [if_pos e] at h ⊢
    cases ok
    · simp only [Bool.false_eq_true, if_false] at h
      exact ifF (by simp) (ifT rfl h)
    · simp only [if_true] at h
      refine ifT rfl (ifT rfl (stime _ (by rw [List.length_tail]; omega) ?_))
      by_cases e2 : (timeL dt.tail).2.2 = true
      · refine ifF (by simp [e2]) (sruleRight _ _ _ _ _ ?_)
        by_cases e3 : rightR dk da db dc (timeL dt.tail).1 = true
        · rw [if_pos ⟨e2, e3⟩] at h
          exact ifF (by simp [e3]) h
        · rw [if_neg (fun h => e3 h.2)] at h
          exact ifT (by simpa using e3) h
      · rw [if_neg (fun h => e2 h.1)] at h
        exact ifT (by simpa using e2) h
  · rw [if_neg e] at h ⊢
    cases ok
    · simp only [Bool.false_eq_true, if_false] at h
      exact ifF (by simp) (ifT rfl h)
    · simp only [if_true] at h
      refine ifT rfl (ifF (by simp) (ifF (by simp) (sruleRight _ _ _ _ _ ?_)))
      by_cases e3 : rightR dk da db dc 7200 = true
      · rw [if_pos e3] at h
        exact ifF (by simp [e3]) h
      · rw [if_neg e3] at h
        exact ifT (by simpa using e3) h
end Go.Proofs.YtenaflbcnkalbaaGreatDoor
end
section
set_option linter.unusedVariables false
set_option linter.unusedSimpArgs false
namespace Go.Proofs.YtenaflbcnkalbaaGreatDoor
open Go Go.Proofs.YtenaflbcnkalbaaGreatDoor.Eng Go.Proofs.YtenaflbcnkalbaaGreatDoor.Pl
set_option linter.unusedVariables false
set_option linter.unusedSimpArgs false
theorem tmod_leap (y : Int) : (Int.tmod y 4 = 0 ↔ y % 4 = 0) ∧ (Int.tmod y 100 = 0 ↔ y % 100 = 0) ∧ (Int.tmod y 400 = 0 ↔ y % 400 = 0) := by
  refine ⟨?_, ?_, ?_⟩ <;> rw [← Int.dvd_iff_emod_eq_zero, Int.dvd_iff_tmod_eq_zero]
theorem sleap (y : Int) {K} (h : K (leapY y)) : Xday_Leap y K := by
  unfold Xday_Leap Yday_Leap
  obtain ⟨t1, t2, t3⟩ := tmod_leap y
  have fin : ∀ z : Bool, (z = true ↔ (y % 4 = 0 ∧ (y % 100 ≠ 0 ∨ y % 400 = 0))) → K z := fun z hz => cast (congrArg K (Bool.eq_iff_iff.2 ((leapY_iff y).trans hz.symm))) h
  simp only [beq_iff_eq, bne_iff_ne, ne_eq, t1, t2]
  refine ifC (fun h1 => ifC (fun h2 => fin _ ?_) fun h2 => fin _ ?_) fun h1 => fin _ ?_
  · simp; omega
  · rw [beq_iff_eq, t3]; omega
  · simp; omega
theorem slast (y m : Int) {K} (h : K (if 1 ≤ y ∧ y ≤ 9999 ∧ 1 ≤ m ∧ m ≤ 12 then dim y m else 0) (decide (1 ≤ y ∧ y ≤ 9999 ∧ 1 ≤ m ∧ m ≤ 12))) : Xday_Last y m K := by
  unfold Xday_Last Yday_Last
  simp only [decide_eq_true_eq, gt_iff_lt]
  by_cases e : 1 ≤ y ∧ y ≤ 9999 ∧ 1 ≤ m ∧ m ≤ 12
  · rw [if_pos e, decide_eq_true e] at h
    refine ifF (by omega) (ifF (by omega) (ifF (by omega) (ifF (by omega) ?_)))
    rw [w64_in (by omega) (by omega)]
    refine ifT (by omega) ?_
    rcases month_cases e.2.2.1 e.2.2.2 with rfl | rfl | rfl | rfl | rfl | rfl | rfl | rfl | rfl | rfl | rfl | rfl
    all_goals
      simp only [Int.sub_self, Int.reduceSub, Int.reduceToNat, Nat.reduceMul, List.getElem?_cons_zero, List.getElem?_cons_succ, Eng.asInt, if_true, beq_iff_eq, Int.toNat_zero, Nat.zero_mul, beq_self_eq_true, Int.reduceBEq, Bool.false_eq_true, if_false]
      first
      | exact h
      | (refine sleap _ ?_
         unfold dim at h
         rw [if_pos rfl] at h
         refine ifC (fun hl => ?_) fun hl => ?_
         · rw [if_pos hl] at h; exact h
         · rw [if_neg hl] at h; exact h)
  · rw [if_neg e, decide_eq_false e] at h
    exact ifC (fun _ => h) fun _ => ifC (fun _ => h) fun _ => ifC (fun _ => h) fun _ => ifT (by omega) h
theorem ediv_in (a b : Int) (h0 : -9223372036854775808 ≤ a) (h1 : a ≤ 9223372036854775807) (hb : 1 ≤ b) : -9223372036854775808 ≤ a / b ∧ a / b ≤ 9223372036854775807 := by
  constructor
  · have : a ≤ a / b ∨ 0 ≤ a / b := by
      by_cases hn : 0 ≤ a
      · exact .inr (Int.ediv_nonneg hn (by omega))
      · refine .inl (Int.le_ediv_of_mul_le (by omega) ?_)
        have : (b - 1) * a ≤ 0 := Int.mul_nonpos_of_nonneg_of_nonpos (by omega) (by omega)
        rw [Int.sub_mul, Int.mul_comm b a] at this
        omega
    omega
  · have := Int.ediv_le_self (a := a) b
    by_cases hn : 0 ≤ a
    · have := this hn; omega
    · have := Int.ediv_neg_of_neg_of_pos (by omega : a < 0) (by omega : 0 < b); omega
theorem sdiv (a b : Int) (h0 : -9223372036854775808 ≤ a) (h1 : a ≤ 9223372036854775807) (hb : 1 ≤ b) (hb' : b ≤ 9223372036854775807) {K} (h : K (a / b) (a % b) true) : Xnum_Div a b K := by
  unfold Xnum_Div Ynum_Div
  have hm := Int.emod_nonneg a (by omega : b ≠ 0)
  have hm2 := Int.emod_lt_of_pos a (by omega : 0 < b)
  obtain ⟨hq1, hq2⟩ := ediv_in a b h0 h1 hb
  simp only [decide_eq_true_eq, lt]
  refine ifF (by omega) (ifF (by omega) (ifF (by omega) ?_))
  by_cases hn : 0 ≤ a
  · rw [Int.tmod_eq_emod_of_nonneg hn, Int.tdiv_eq_ediv_of_nonneg hn]
    refine ifF (by omega) ?_
    rw [w64_in hq1 hq2]; exact h
  · by_cases hz : a % b = 0
    · have hd : b ∣ a := Int.dvd_of_emod_eq_zero hz
      have e1 : Int.tmod a b = 0 := Int.tmod_eq_zero_of_dvd hd
      have e2 : Int.tdiv a b = a / b := by
        obtain ⟨c, rfl⟩ := hd
        rw [Int.mul_tdiv_cancel_left _ (by omega), Int.mul_ediv_cancel_left _ (by omega)]
      rw [e1, e2]
      refine ifF (by omega) ?_
      rw [w64_in hq1 hq2, ← hz]; exact h
    · have e1 : Int.tmod a b = a % b - b := by
        rw [Int.tmod_eq_emod]
        have : ¬ (0 ≤ a ∨ b ∣ a) := by
          rintro (h | h)
          · exact hn h
          · exact hz (Int.emod_eq_zero_of_dvd h)
        rw [if_neg this]
        have : (b.natAbs : Int) = b := by omega
        omega
      have e2 : Int.tdiv a b = a / b + 1 := by
        have := Int.mul_tdiv_add_tmod a b
        rw [e1] at this
        have hdm := Int.mul_ediv_add_emod a b
        have h2 : b * (Int.tdiv a b) = b * (a / b + 1) := by rw [Int.mul_add]; omega
        exact Int.eq_of_mul_eq_mul_left (by omega) h2
      have hlt : a / b < 0 := Int.ediv_neg_of_neg_of_pos (by omega) (by omega)
      rw [e1, e2]
      refine ifT (by omega) ?_
      rw [w64_in (n := a / b + 1) (by omega) (by omega), w64_in (by omega) (by omega), w64_in (by omega) (by omega), show a / b + 1 - 1 = a / b by omega, show a % b - b + b = a % b by omega]
      exact h
theorem sweekday (n : Int) (h0 : -9223372036854775808 ≤ n) (h1 : n ≤ 9223372036854775807) {K} (h : K (wk n)) : Xday_Week n K := by
  unfold Xday_Week Yday_Week
  have ht : -7 < Int.tmod n 7 ∧ Int.tmod n 7 < 7 ∧ (Int.tmod n 7 + 4) % 7 = (n + 4) % 7 := by
    rw [Int.tmod_eq_emod]; split <;> simp <;> omega
  rw [w64_in (by omega) (by omega)]
  refine sdiv _ _ (by omega) (by omega) (by omega) (by omega) ?_
  rw [ht.2.2]; exact h
def okD (y m d : Int) : Prop := 1 ≤ y ∧ y ≤ 9999 ∧ 1 ≤ m ∧ m ≤ 12 ∧ 1 ≤ d ∧ d ≤ dim y m
instance (y m d : Int) : Decidable (okD y m d) := by unfold okD; infer_instance
theorem snum (y m d : Int) (hd0 : -9223372036854775808 ≤ d) (hd1 : d ≤ 9223372036854775807) {K} (h : K (if okD y m d then num y m d else 0) (decide (okD y m d))) : Xday_Number y m d K := by
  unfold Xday_Number Yday_Number
  refine slast _ _ ?_
  simp only [decide_eq_true_eq, gt_iff_lt, lt]
  by_cases e : 1 ≤ y ∧ y ≤ 9999 ∧ 1 ≤ m ∧ m ≤ 12
  · rw [decide_eq_true e, if_pos e]
    refine ifF (by simp) ?_
    by_cases e2 : 1 ≤ d ∧ d ≤ dim y m
    · have ok : okD y m d := ⟨e.1, e.2.1, e.2.2.1, e.2.2.2, e2.1, e2.2⟩
      rw [if_pos ok, decide_eq_true ok] at h
      refine ifF (by omega) (ifF (by omega) ?_)
      have hd := dim_bd y m
      rw [← numP_eq e.2.2.1 e.2.2.2] at h
      unfold numP sy sm at h
      refine ifC (fun hm => ?_) fun hm => ?_
      · rw [if_pos hm, if_pos hm] at h
        rw [w64_in (n := y - 1) (by omega) (by omega)]
        refine sdiv _ _ (by omega) (by omega) (by omega) (by omega) ?_
        have b1 : 0 ≤ (y - 1) % 400 ∧ (y - 1) % 400 ≤ 399 := by omega
        have b2 : 0 ≤ (y - 1) / 400 ∧ (y - 1) / 400 ≤ 25 := by omega
        generalize (y - 1) % 400 = r at *
        generalize (y - 1) / 400 = q at *
        simp (disch := omega) only [w64_in, Int.tdiv_eq_ediv_of_nonneg]
        refine cast (congrArg (fun z => K z true) ?_) h
        omega
      · rw [if_neg hm, if_neg hm] at h
        refine sdiv _ _ (by omega) (by omega) (by omega) (by omega) ?_
        have b1 : 0 ≤ y % 400 ∧ y % 400 ≤ 399 := by omega
        have b2 : 0 ≤ y / 400 ∧ y / 400 ≤ 25 := by omega
        generalize y % 400 = r at *
        generalize y / 400 = q at *
        simp (disch := omega) only [w64_in, Int.tdiv_eq_ediv_of_nonneg]
        refine cast (congrArg (fun z => K z true) ?_) h
        omega
    · have ok : ¬ okD y m d := fun h => e2 h.2.2.2.2
      rw [if_neg ok, decide_eq_false ok] at h
      exact ifC (fun _ => h) fun _ => ifT (by omega) h
  · have ok : ¬ okD y m d := fun h => e ⟨h.1, h.2.1, h.2.2.1, h.2.2.2.1⟩
    rw [if_neg ok, decide_eq_false ok] at h
    rw [decide_eq_false e]
    exact ifT rfl h
theorem sday (n : Int) {K} (h : if -719162 ≤ n ∧ n ≤ 2932896 then K (yearP n) (monP n) (dayP n) true else K 0 0 0 false) : Xday_Date n K := by
  unfold Xday_Date Yday_Date
  simp only [decide_eq_true_eq, gt_iff_lt, lt]
  by_cases e : -719162 ≤ n ∧ n ≤ 2932896
  · rw [if_pos e] at h
    refine ifF (by omega) (ifF (by omega) ?_)
    rw [w64_in (n := n + 719468) (by omega) (by omega)]
    refine sdiv _ _ (by omega) (by omega) (by omega) (by omega) ?_
    have b1 : 0 ≤ (n + 719468) / 146097 ∧ (n + 719468) / 146097 ≤ 25 := by omega
    have b2 : 0 ≤ (n + 719468) % 146097 ∧ (n + 719468) % 146097 ≤ 146096 := by omega
    have hv := doy_bd (by omega : -719162 ≤ n) (by omega)
    unfold yearP monP dayP mon doy yrs era ofE at *
    generalize (n + 719468) / 146097 = q at *
    generalize (n + 719468) % 146097 = o at *
    have hg : 0 ≤ gy o ∧ gy o ≤ 146096 ∧ gy o = o - o / 1460 + o / 36524 - o / 146096 := by unfold gy; omega
    simp (disch := omega) only [w64_in, Int.tdiv_eq_ediv_of_nonneg]
    rw [← hg.2.2]
    have hY : 0 ≤ gy o / 365 ∧ gy o / 365 ≤ 400 := by omega
    have hS : st (gy o / 365) = 365 * (gy o / 365) + gy o / 365 / 4 - gy o / 365 / 100 := rfl
    rw [hS] at hv h
    generalize o - (365 * (gy o / 365) + gy o / 365 / 4 - gy o / 365 / 100) = D at *
    simp (disch := omega) only [w64_in, Int.tdiv_eq_ediv_of_nonneg]
    refine ifC (fun hm => ?_) fun hm => ?_
    · rw [if_pos (by omega), if_pos (by omega)] at h; exact h
    · rw [if_neg (by omega), if_neg (by omega)] at h; exact h
  · rw [if_neg e] at h
    exact ifC (fun _ => h) fun _ => ifT (by omega) h
theorem sruleDay (k a b c x y : Int) {K} (h : K (if (1 ≤ y ∧ y ≤ 9999) ∧ rightR k a b c x = true then ruleDay k a b c y else 0) (decide ((1 ≤ y ∧ y ≤ 9999) ∧ rightR k a b c x = true))) : Xrule_Day (k, a, b, c, x, ()) y K := by
  unfold Xrule_Day Yrule_Day
  refine snum _ _ _ (by omega) (by omega) ?_
  simp only [decide_eq_true_eq, gt_iff_lt, ge_iff_le, lt, beq_iff_eq]
  have h1 : okD y 1 1 ↔ (1 ≤ y ∧ y ≤ 9999) := by unfold okD; have := dim_jan y; omega
  by_cases ey : 1 ≤ y ∧ y ≤ 9999
  · rw [if_pos (h1.2 ey), decide_eq_true (h1.2 ey)]
    refine ifF (by simp) (sruleRight _ _ _ _ _ ?_)
    by_cases e : rightR k a b c x = true
    · rw [if_pos ⟨ey, e⟩, decide_eq_true ⟨ey, e⟩] at h
      refine ifF (by simp [e]) ?_
      obtain ⟨hx, hr⟩ := (right_iff k a b c x).1 e
      have hf := fst_bd ey.1 ey.2
      have hf2 := fst_succ y
      rw [num_first] 
      unfold ruleDay at h
      refine ifC (fun k2 => ?_) fun k2 => ?_
      · rw [if_pos k2] at h
        rw [w64_in (by omega) (by omega)]; exact h
      · rw [if_neg k2] at h
        refine ifC (fun k1 => ?_) fun k1 => ?_
        · rw [if_pos k1] at h
          refine ifC (fun ha => ?_) fun ha => sleap _ ?_
          · rw [if_pos (.inl ha)] at h
            rw [w64_in (n := fst y - 1) (by omega) (by omega), w64_in (by omega) (by omega)]; exact h
          · refine ifC (fun hl => ?_) fun hl => ?_
            · rw [if_pos (.inr (by simpa using hl))] at h
              rw [w64_in (n := fst y - 1) (by omega) (by omega), w64_in (by omega) (by omega)]; exact h
            · rw [if_neg (by rintro (h | h); exact ha h; simp [h] at hl)] at h
              rw [w64_in (by omega) (by omega)]; exact h
        · rw [if_neg k1] at h
          refine snum _ _ _ (by omega) (by omega) (slast _ _ ?_)
          have hok : okD y a 1 := ⟨ey.1, ey.2, by omega, by omega, by omega, by have := dim_bd y a; omega⟩
          have hv : Vld y a 1 := ⟨ey.1, ey.2, by omega, by omega, by omega, by have := dim_bd y a; omega⟩
          have hn := num_range hv
          rw [if_pos hok, if_pos ⟨ey.1, ey.2, by omega, by omega⟩]
          refine sweekday _ (by omega) (by omega) ?_
          have hw : 0 ≤ wk (num y a 1) ∧ wk (num y a 1) < 7 := by unfold wk; omega
          have hd := dim_bd y a
          unfold offW at h
          simp only at h
          generalize num y a 1 = n at *
          generalize wk n = w at *
          generalize dim y a = D at *
          rw [w64_in (n := b - 1) (by omega) (by omega), w64_in (n := 7 * (b - 1)) (by omega) (by omega), w64_in (n := c - w) (by omega) (by omega), w64_in (n := c - w + 7) (by omega) (by omega), Int.tmod_eq_emod_of_nonneg (by omega)]
          rw [w64_in (n := (c - w + 7) % 7 + 7 * (b - 1)) (by omega) (by omega)]
          refine ifC (fun hk => ?_) fun hk => ?_
          · rw [if_pos (by omega)] at h
            rw [w64_in (n := (c - w + 7) % 7 + 7 * (b - 1) - 7) (by omega) (by omega), w64_in (by omega) (by omega)]; exact h
          · rw [if_neg (by omega)] at h
            rw [w64_in (by omega) (by omega)]; exact h
    · rw [if_neg (fun h => e h.2), decide_eq_false (fun h => e h.2)] at h
      exact ifT (by simpa using e) h
  · rw [if_neg (fun h => ey h.1), decide_eq_false (fun h => ey h.1)] at h
    have : ¬ okD y 1 1 := fun h => ey (h1.1 h)
    rw [decide_eq_false this]
    exact ifT rfl h
/-- A rule's second of a year, from the first of 1970 on. -/
def ruleAt (k a b c x y : Int) : Int := ruleDay k a b c y * 86400 + x
theorem sruleAt (k a b c x y : Int) {K} (h : K (if (1 ≤ y ∧ y ≤ 9999) ∧ rightR k a b c x = true then ruleAt k a b c x y else 0) (decide ((1 ≤ y ∧ y ≤ 9999) ∧ rightR k a b c x = true))) : Xrule_At (k, a, b, c, x, ()) y K := by
  unfold Xrule_At Yrule_At
  refine sruleDay _ _ _ _ _ _ ?_
  simp only [decide_eq_true_eq, lt]
  by_cases e : (1 ≤ y ∧ y ≤ 9999) ∧ rightR k a b c x = true
  · rw [if_pos e, decide_eq_true e] at h ⊢
    refine ifF (by simp) ?_
    obtain ⟨hx, hr⟩ := (right_iff k a b c x).1 e.2
    have hf := fst_bd e.1.1 e.1.2
    have hf2 := fst_succ y
    have hb := ruleDay_bd e.1 e.2
    rw [w64_in (n := ruleDay k a b c y * 86400) (by omega) (by omega), w64_in (by omega) (by omega)]
    exact h
  · rw [if_neg e, decide_eq_false e] at h
    rw [decide_eq_false e]
    exact ifT rfl h
theorem sadd (a b : Int) (ha : -9223372036854775808 ≤ a ∧ a ≤ 9223372036854775807) (hb : -9223372036854775808 ≤ b ∧ b ≤ 9223372036854775807) {K}
    (h : if -9223372036854775808 ≤ a + b ∧ a + b ≤ 9223372036854775807 then K (a + b) true else K 0 false) : Xnum_Add a b K := by
  unfold Xnum_Add Ynum_Add
  simp only [lt, bne_iff_ne, ne_eq]
  by_cases e : -9223372036854775808 ≤ a + b ∧ a + b ≤ 9223372036854775807
  · rw [if_pos e] at h
    rw [w64_in e.1 e.2]
    exact ifC (fun h1 => ifC (fun h2 => absurd h1 (by simp; omega)) fun _ => h) fun _ => h
  · rw [if_neg e] at h
    have hw : w64 (a + b) = if a + b < 0 then a + b + 18446744073709551616 else a + b - 18446744073709551616 := by
      unfold w64 IntKind.wrap
      simp [IntKind.bits, IntKind.signed]
      split <;> omega
    rw [hw]
    refine ifT ?_ (ifT (by omega) h)
    split <;> simp <;> omega
end Go.Proofs.YtenaflbcnkalbaaGreatDoor
end
section
set_option linter.unusedVariables false
set_option linter.unusedSimpArgs false
namespace Go.Proofs.YtenaflbcnkalbaaGreatDoor
open Go Go.Proofs.YtenaflbcnkalbaaGreatDoor.Eng Go.Proofs.YtenaflbcnkalbaaGreatDoor.Pl
set_option linter.unusedVariables false
set_option linter.unusedSimpArgs false
abbrev tupRu (r : Ru) : Int × Int × Int × Int × Int × Unit := (r.k, r.a, r.b, r.c, r.x, ())
abbrev tupFt (f : Ft) : Int × Bool × ByteArray × Int × Bool × ByteArray × Bool × Int × Int × Int × Int × Int × Int × Int × Int × Int × Int × Unit :=
  (f.so, f.sd, S f.sa, f.wo, f.wd, S f.wa, f.has, f.fr.k, f.fr.a, f.fr.b, f.fr.c, f.fr.x, f.to.k, f.to.a, f.to.b, f.to.c, f.to.x, ())
theorem skind (o : Int) (d : Bool) (l : List UInt8) (w : Bool) {K} (h : K (kindR o d l w)) : Xfoot_kind (o, d, S l, ()) w K := by
  unfold Xfoot_kind Yfoot_kind
  refine sabbr l ?_
  unfold kindR at h
  simp only [ge_iff_le, decide_eq_true_eq, beq_iff_eq]
  by_cases e1 : abbrL l = true
  · refine ifT e1 ?_
    by_cases e2 : d = w
    · refine ifT e2 ?_
      simp only [e1, e2, beq_self_eq_true, Bool.true_and] at h
      refine ifC (fun e3 => cast (congrArg K ?_) h) fun e3 => cast (congrArg K ?_) h
      · simp [e3]
      · simp [e3]
    · exact ifF e2 (cast (congrArg K (by simp [e2])) h)
  · exact ifF e1 (cast (congrArg K (by simp [e1])) h)
theorem sfootRight (f : Ft) {K} (h : K f.ok) : Xfoot_Right (tupFt f) K := by
  unfold Xfoot_Right Yfoot_Right
  refine skind _ _ _ _ ?_
  unfold Ft.ok at h
  by_cases e1 : kindR f.so f.sd f.sa false = true
  · refine ifF (by simp [e1]) ?_
    rw [e1, Bool.true_and] at h
    refine ifC (fun e2 => ?_) fun e2 => ?_
    · rw [if_pos e2] at h
      refine skind _ _ _ _ ?_
      by_cases e3 : kindR f.wo f.wd f.wa true = true
      · refine ifT e3 (sruleRight _ _ _ _ _ ?_)
        rw [e3, Bool.true_and] at h
        by_cases e4 : f.fr.ok = true
        · refine ifT e4 (sruleRight _ _ _ _ _ ?_)
          rw [e4, Bool.true_and] at h
          exact h
        · exact ifF e4 (cast (congrArg K (by simp [e4])) h)
      · exact ifF e3 (cast (congrArg K (by simp [e3])) h)
    · rw [if_neg e2] at h
      have key : ∀ z : Bool, (z = true ↔ f.bare) → K z := fun z hz => cast (congrArg K (Bool.eq_iff_iff.2 (decide_eq_true_iff.trans hz.symm))) h
      have e2' : f.has = false := by simpa using e2
      simp only [lt]
      refine key _ ?_
      unfold Ft.bare
      simp [e2', S_toList]
      constructor <;> intro hh <;> simp [hh]
  · exact ifT (by simpa using e1) (cast (congrArg K (by simp [e1])) h)
theorem splain (n : Int) {K} (h : K (decide ((97 ≤ n ∧ n ≤ 122) ∨ (65 ≤ n ∧ n ≤ 90)))) : Xfoot_plain n K := by
  unfold Xfoot_plain Yfoot_plain
  simp only [decide_eq_true_eq, ge_iff_le]
  repeat' (first | refine ifT (by omega) ?_ | refine ifF (by omega) ?_ | refine ifC (fun _ => ?_) (fun _ => ?_))
  all_goals (refine cast (congrArg K ?_) h; apply Bool.eq_iff_iff.2; simp only [decide_eq_true_eq, Bool.false_eq_true, true_iff, iff_true, iff_false]; omega)
theorem letQ (c : UInt8) : (!decide ((97 ≤ (c.toNat : Int) ∧ (c.toNat : Int) ≤ 122) ∨ (65 ≤ (c.toNat : Int) ∧ (c.toNat : Int) ≤ 90))) = !letC c := by
  unfold letC; congr 1; apply Bool.eq_iff_iff.2; simp; omega
theorem letH (c : UInt8) (hc : 128 ≤ c.toNat) : (!letC c) = true := by
  unfold letC; simp; omega
theorem sname (l : List UInt8) (hl : l.length ≤ 140737488351232) {a1 a2 a3 a4 a5 a6 a7 a8 a9 a10 a11 a12 a13 a14 a15 a16 a17} {K} (h : K (S (nameP l).1) (nameP l).2.1 (S (nameP l).2.2) a1 a2 a3 a4 a5 a6 a7 a8 a9 a10 a11 a12 a13 a14 a15 a16 a17) : Xfoot_reader_name (S l) a1 a2 a3 a4 a5 a6 a7 a8 a9 a10 a11 a12 a13 a14 a15 a16 a17 K := by
  unfold Xfoot_reader_name Yfoot_reader_name
  refine sCutPrefix _ _ ?_
  unfold nameP at h
  unfold cutP
  by_cases e : l.head? = some 60
  · rw [if_pos e] at h ⊢
    refine ifT rfl (sCut _ _ (by rw [List.length_tail]; omega) ?_)
    generalize splitL 62 l.tail = p at *
    obtain ⟨p1, p2, p3⟩ := p
    simp only at h ⊢
    cases p3
    · simp only [Bool.false_and] at h
      exact ifF (by simp) h
    · simp only [Bool.true_and] at h
      exact ifT rfl (sabbr _ h)
  · rw [if_neg e] at h ⊢
    refine ifF (by simp) ?_
    unfold Xstrings_IndexFunc_1 Ystrings_IndexFunc_1 Xstrings_indexFunc_1
    have sn : ∀ (n : Int) {K : Bool → Prop}, K (!decide ((97 ≤ n ∧ n ≤ 122) ∨ (65 ≤ n ∧ n ≤ 90))) → Xfoot_reader_name_1 n K := fun n K h => by
      unfold Xfoot_reader_name_1 Yfoot_reader_name_1; exact splain n h
    refine sIndexFunc (fun c => !letC c) (fun c K hc h => sn _ (cast (congrArg K (letQ c).symm) h)) (fun n K hn h => sn _ (cast (congrArg K ?_) h)) letH l ?_
    · symm; simp; omega
    · have hn := nl_le (fun c => !letC c) l
      generalize nl (fun c => !letC c) l = k at *
      simp only [S_size, S_extract, decide_eq_true_eq, List.drop_zero, Nat.sub_zero, take_all, Int.toNat_natCast]
      by_cases e2 : k < l.length
      · rw [if_pos e2]
        simp only [Int.toNat_natCast, take_all, List.drop_zero, Nat.sub_zero]
        exact ifF (by omega) (ifT (by omega) (ifT (by omega) (ifT (by omega) (ifT (by omega) (sabbr _ h)))))
      · rw [if_neg e2]
        have : k = l.length := by omega
        subst this
        refine ifT (by omega) (ifT (by omega) (ifT (by omega) (ifT (by omega) (sabbr _ ?_))))
        exact h
theorem name_len (l : List UInt8) : (nameP l).2.2.length ≤ l.length ∧ (nameP l).1.length ≤ l.length := by
  unfold nameP splitL
  repeat' split
  all_goals simp
  all_goals omega
theorem time_bd (l : List UInt8) : -604799 ≤ (timeL l).1 ∧ (timeL l).1 ≤ 604799 ∧ (timeL l).2.1.length ≤ l.length := by
  obtain ⟨j, _, e, _, h1, h2, _⟩ := time_drop l
  rw [e, List.length_drop]; exact ⟨h1, h2, by omega⟩
theorem susual (l : List UInt8) (hl : l.length ≤ 140737488351232) {a1 a2 a3 a4 a5 a6 a7 a8 a9 a10 a11 a12 a13 a14 a15 a16 a17} {K} (h : K (usualP l).ok (S (usualP l).rest) (usualP l).o false (S (usualP l).a) a4 a5 a6 a7 a8 a9 a10 a11 a12 a13 a14 a15 a16 a17) : Xfoot_reader_usual (S l) a1 a2 a3 a4 a5 a6 a7 a8 a9 a10 a11 a12 a13 a14 a15 a16 a17 K := by
  unfold Xfoot_reader_usual Yfoot_reader_usual
  have hn := name_len l
  refine sname l hl (stime _ (by omega) ?_)
  have ht := time_bd (nameP l).2.2
  rw [w64_in (by omega) (by omega), Int.zero_sub]
  unfold usualP at h
  simp only at h
  by_cases e : (nameP l).2.1 = true
  · rw [e, Bool.true_and] at h
    exact ifT e h
  · rw [Bool.eq_false_iff.2 e, Bool.false_and] at h
    exact ifF e h
theorem ssummer (l : List UInt8) (hl : l.length ≤ 140737488351232) {a1 a2 a3 a4 a5 a6 a7 a8 a9 a10 a11 a12 a13 a14 a15 a16 a17} (ha : -604799 ≤ a1 ∧ a1 ≤ 604799) {K} (h : K (summerP a1 l).ok (S (summerP a1 l).rest) a1 a2 a3 (summerP a1 l).o true (S (summerP a1 l).a) true a8 a9 a10 a11 a12 a13 a14 a15 a16 a17) : Xfoot_reader_summer (S l) a1 a2 a3 a4 a5 a6 a7 a8 a9 a10 a11 a12 a13 a14 a15 a16 a17 K := by
  unfold Xfoot_reader_summer Yfoot_reader_summer
  have hn := name_len l
  refine sname l hl (stime _ (by omega) ?_)
  have ht := time_bd (nameP l).2.2
  rw [w64_in (n := 0 - _) (by omega) (by omega), Int.zero_sub, w64_in (by omega) (by omega)]
  unfold summerP at h
  by_cases e : (timeL (nameP l).2.2).2.2 = true
  · rw [if_pos e] at h
    exact ifT e h
  · rw [if_neg e] at h
    exact ifF e h
theorem cut_len (c : UInt8) (l : List UInt8) : (cutP c l).1.length ≤ l.length := by
  unfold cutP; split
  · rw [List.length_tail]; omega
  · exact Nat.le_refl _
theorem srule (l : List UInt8) (hl : l.length ≤ 140737488351232) {a1 a2 a3 a4 a5 a6 a7 a8 a9 a10 a11 a12 a13 a14 a15 a16 a17} {K} (h : K (ruleP l).ok (S (ruleP l).rest) a1 a2 a3 a4 a5 a6 a7 (ruleP l).r.k (ruleP l).r.a (ruleP l).r.b (ruleP l).r.c (ruleP l).r.x a13 a14 a15 a16 a17) : Xfoot_reader_rule (S l) a1 a2 a3 a4 a5 a6 a7 a8 a9 a10 a11 a12 a13 a14 a15 a16 a17 K := by
  unfold Xfoot_reader_rule Yfoot_reader_rule
  have hc := cut_len 44 l
  refine sCutPrefix _ _ (sruleParse _ (by omega) ?_)
  unfold ruleP at h
  simp only at h
  by_cases e : (parseL (cutP 44 l).1).2.2.2.2.2.2 = true
  · rw [e, Bool.true_and] at h
    exact ifT e h
  · rw [Bool.eq_false_iff.2 e, Bool.false_and] at h
    exact ifF e h
theorem srule1 (l : List UInt8) (hl : l.length ≤ 140737488351232) {a1 a2 a3 a4 a5 a6 a7 a8 a9 a10 a11 a12 a13 a14 a15 a16 a17} {K} (h : K (ruleP l).ok (S (ruleP l).rest) a1 a2 a3 a4 a5 a6 a7 a8 a9 a10 a11 a12 (ruleP l).r.k (ruleP l).r.a (ruleP l).r.b (ruleP l).r.c (ruleP l).r.x) : Xfoot_reader_rule_1 (S l) a1 a2 a3 a4 a5 a6 a7 a8 a9 a10 a11 a12 a13 a14 a15 a16 a17 K := by
  unfold Xfoot_reader_rule_1 Yfoot_reader_rule_1
  have hc := cut_len 44 l
  refine sCutPrefix _ _ (sruleParse _ (by omega) ?_)
  unfold ruleP at h
  simp only at h
  by_cases e : (parseL (cutP 44 l).1).2.2.2.2.2.2 = true
  · rw [e, Bool.true_and] at h
    exact ifT e h
  · rw [Bool.eq_false_iff.2 e, Bool.false_and] at h
    exact ifF e h
theorem rule_len (l : List UInt8) : (ruleP l).rest.length ≤ l.length := by
  have hc := cut_len 44 l
  unfold ruleP
  simp only
  cases e : (parseL (cutP 44 l).1).2.2.2.2.2.2
  · rw [parse_bad _ e]; exact hc
  · obtain ⟨_, j, _, h1, h2⟩ := parse_good _ e
    rw [h2, List.length_drop]; omega
theorem usual_len (l : List UInt8) : (usualP l).rest.length ≤ l.length ∧ -604799 ≤ (usualP l).o ∧ (usualP l).o ≤ 604799 := by
  have hn := name_len l
  have ht := time_bd (nameP l).2.2
  unfold usualP
  simp only
  omega
theorem summer_len (so : Int) (l : List UInt8) : (summerP so l).rest.length ≤ l.length := by
  have hn := name_len l
  have ht := time_bd (nameP l).2.2
  unfold summerP
  split <;> simp only <;> omega
theorem sfootParse (l : List UInt8) (hl : l.length ≤ 140737488351232) {K} (h : K (tupFt (Ft.parse l).1) (Ft.parse l).2) : Xfoot_Parse (S l) K := by
  unfold Xfoot_Parse Yfoot_Parse
  have hu := usual_len l
  have hs := summer_len (usualP l).o (usualP l).rest
  have hr := rule_len (summerP (usualP l).o (usualP l).rest).rest
  refine susual l hl ?_
  unfold Ft.parse at h
  by_cases e1 : (usualP l).ok = true
  · rw [if_pos e1] at h
    refine ifF (by simp [e1]) ?_
    simp only [S_toList]
    by_cases e2 : (usualP l).rest = []
    · rw [if_pos e2] at h
      refine ifT (by simp [e2]) (ifF (by simp [e2]) (sfootRight ⟨(usualP l).o, false, (usualP l).a, 0, false, [], false, .z, .z⟩ ?_))
      unfold Ft.chk at h
      refine ifC (fun e3 => ?_) fun e3 => ?_
      · rw [if_neg (by simpa using e3)] at h; exact h
      · rw [if_pos (by simpa using e3)] at h; exact h
    · rw [if_neg e2] at h
      refine ifF (by simp [e2]) (ssummer _ (by omega) (by omega) ?_)
      by_cases e3 : (summerP (usualP l).o (usualP l).rest).ok = true
      · rw [if_pos e3] at h
        refine ifF (by simp [e3]) ?_
        unfold Xfoot_reader_from Yfoot_reader_from
        refine srule _ (by omega) ?_
        by_cases e4 : (ruleP (summerP (usualP l).o (usualP l).rest).rest).ok = true
        · rw [if_pos e4] at h
          refine ifF (by simp [e4]) ?_
          unfold Xfoot_reader_to Yfoot_reader_to
          refine srule1 _ (by omega) ?_
          by_cases e5 : (ruleP (ruleP (summerP (usualP l).o (usualP l).rest).rest).rest).ok = true
          · rw [if_pos e5] at h
            refine ifF (by simp [e5]) ?_
            simp only [S_toList]
            by_cases e6 : (ruleP (ruleP (summerP (usualP l).o (usualP l).rest).rest).rest).rest = []
            · rw [if_pos e6] at h
              refine ifF (by simp [e6]) (sfootRight ⟨(usualP l).o, false, (usualP l).a, (summerP (usualP l).o (usualP l).rest).o, true, (summerP (usualP l).o (usualP l).rest).a, true, (ruleP (summerP (usualP l).o (usualP l).rest).rest).r, (ruleP (ruleP (summerP (usualP l).o (usualP l).rest).rest).rest).r⟩ ?_)
              unfold Ft.chk at h
              refine ifC (fun e3 => ?_) fun e3 => ?_
              · rw [if_neg (by simpa using e3)] at h; exact h
              · rw [if_pos (by simpa using e3)] at h; exact h
            · rw [if_neg e6] at h
              exact ifT (by simp [e6]) h
          · rw [if_neg e5] at h
            exact ifT (by simpa using e5) h
        · rw [if_neg e4] at h
          exact ifT (by simpa using e4) h
      · rw [if_neg e3] at h
        exact ifT (by simpa using e3) h
  · rw [if_neg e1] at h
    exact ifT (by simpa using e1) h
end Go.Proofs.YtenaflbcnkalbaaGreatDoor
end
