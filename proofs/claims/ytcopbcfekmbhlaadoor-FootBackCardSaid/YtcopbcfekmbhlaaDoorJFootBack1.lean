/- What the functions come to in plain data, with proofs, and what that answers. -/
import Derived.Test.YtcopbcfekmbhlaaDoorJFootBack0
import Derived.Test.YtcopbcfekmbhlaaDoorProg
import Derived.Lib.Strings
import Derived.Lib.Atoi
import Derived.Laws.Concat
import Derived.Lib.ItoaNum
import Derived.Laws.RangeString
import Derived.Laws.RangeAny
import Derived.KernelRfl
section
set_option linter.unusedVariables false
set_option linter.unusedSimpArgs false
namespace Go.Proofs.YtcopbcfekmbhlaaDoor
open Go Go.Proofs.YtcopbcfekmbhlaaDoor.Eng
set_option linter.unusedVariables false
set_option maxRecDepth 100000
set_option maxHeartbeats 4000000
variable {G : Gs}
/- (*epact/foot.reader).rule -/
def Yfoot_reader_rule_1 (xstrings_CutPrefix : (ByteArray) → (ByteArray) → ((ByteArray) → (Bool) → Prop) → Prop) (xrule_Parse : (ByteArray) → ((Int × Int × Int × Int × Int × Unit) → (ByteArray) → (Bool) → Prop) → Prop) (a0 : ByteArray) (a1 : Int) (a2 : Bool) (a3 : ByteArray) (a4 : Int) (a5 : Bool) (a6 : ByteArray) (a7 : Bool) (a8 : Int) (a9 : Int) (a10 : Int) (a11 : Int) (a12 : Int) (a13 : Int) (a14 : Int) (a15 : Int) (a16 : Int) (a17 : Int) (K : (Bool) → (ByteArray) → (Int) → (Bool) → (ByteArray) → (Int) → (Bool) → (ByteArray) → (Bool) → (Int) → (Int) → (Int) → (Int) → (Int) → (Int) → (Int) → (Int) → (Int) → (Int) → Prop) : Prop :=
  xstrings_CutPrefix a0 (ByteArray.mk #[(44 : UInt8)]) (fun r18 r19 =>
    xrule_Parse r18 (fun r20 r21 r22 =>
      (if r22 = true then
        K r19 r21 a1 a2 a3 a4 a5 a6 a7 a8 a9 a10 a11 a12 (Prod.fst r20) (Prod.fst (Prod.snd r20)) (Prod.fst (Prod.snd (Prod.snd r20))) (Prod.fst (Prod.snd (Prod.snd (Prod.snd r20)))) (Prod.fst (Prod.snd (Prod.snd (Prod.snd (Prod.snd r20)))))
      else
        K false r21 a1 a2 a3 a4 a5 a6 a7 a8 a9 a10 a11 a12 (Prod.fst r20) (Prod.fst (Prod.snd r20)) (Prod.fst (Prod.snd (Prod.snd r20))) (Prod.fst (Prod.snd (Prod.snd (Prod.snd r20)))) (Prod.fst (Prod.snd (Prod.snd (Prod.snd (Prod.snd r20))))))))
def Xfoot_reader_rule_1 (a0 : ByteArray) (a1 : Int) (a2 : Bool) (a3 : ByteArray) (a4 : Int) (a5 : Bool) (a6 : ByteArray) (a7 : Bool) (a8 : Int) (a9 : Int) (a10 : Int) (a11 : Int) (a12 : Int) (a13 : Int) (a14 : Int) (a15 : Int) (a16 : Int) (a17 : Int) (K : (Bool) → (ByteArray) → (Int) → (Bool) → (ByteArray) → (Int) → (Bool) → (ByteArray) → (Bool) → (Int) → (Int) → (Int) → (Int) → (Int) → (Int) → (Int) → (Int) → (Int) → (Int) → Prop) : Prop := Yfoot_reader_rule_1 Xstrings_CutPrefix Xrule_Parse a0 a1 a2 a3 a4 a5 a6 a7 a8 a9 a10 a11 a12 a13 a14 a15 a16 a17 K
def Jfoot_reader_rule_1 (X : (ByteArray) → (Int) → (Bool) → (ByteArray) → (Int) → (Bool) → (ByteArray) → (Bool) → (Int) → (Int) → (Int) → (Int) → (Int) → (Int) → (Int) → (Int) → (Int) → (Int) → ((Bool) → (ByteArray) → (Int) → (Bool) → (ByteArray) → (Int) → (Bool) → (ByteArray) → (Bool) → (Int) → (Int) → (Int) → (Int) → (Int) → (Int) → (Int) → (Int) → (Int) → (Int) → Prop) → Prop) : Inst := ⟨38, (.cons (.ptr 0 0) (.cons (.ptr 0 13) .nil)), (.cons 0 (.cells [.str, .int .i64, .bool, .str, .int .i64, .bool, .str, .bool, .int .i64, .int .i64, .int .i64, .int .i64, .int .i64, .int .i64, .int .i64, .int .i64, .int .i64, .int .i64] (.cons .str (.cons (.int .i64) (.cons .bool (.cons .str (.cons (.int .i64) (.cons .bool (.cons .str (.cons .bool (.cons (.int .i64) (.cons (.int .i64) (.cons (.int .i64) (.cons (.int .i64) (.cons (.int .i64) (.cons (.int .i64) (.cons (.int .i64) (.cons (.int .i64) (.cons (.int .i64) (.cons (.int .i64) .nil))))))))))))))))))) .nil), (.cons .bool .nil), (.cons 0 (.cells [.str, .int .i64, .bool, .str, .int .i64, .bool, .str, .bool, .int .i64, .int .i64, .int .i64, .int .i64, .int .i64, .int .i64, .int .i64, .int .i64, .int .i64, .int .i64] (.cons .str (.cons (.int .i64) (.cons .bool (.cons .str (.cons (.int .i64) (.cons .bool (.cons .str (.cons .bool (.cons (.int .i64) (.cons (.int .i64) (.cons (.int .i64) (.cons (.int .i64) (.cons (.int .i64) (.cons (.int .i64) (.cons (.int .i64) (.cons (.int .i64) (.cons (.int .i64) (.cons (.int .i64) .nil))))))))))))))))))) .nil), fun x y K => X y.1.1 y.1.2.1 y.1.2.2.1 y.1.2.2.2.1 y.1.2.2.2.2.1 y.1.2.2.2.2.2.1 y.1.2.2.2.2.2.2.1 y.1.2.2.2.2.2.2.2.1 y.1.2.2.2.2.2.2.2.2.1 y.1.2.2.2.2.2.2.2.2.2.1 y.1.2.2.2.2.2.2.2.2.2.2.1 y.1.2.2.2.2.2.2.2.2.2.2.2.1 y.1.2.2.2.2.2.2.2.2.2.2.2.2.1 y.1.2.2.2.2.2.2.2.2.2.2.2.2.2.1 y.1.2.2.2.2.2.2.2.2.2.2.2.2.2.2.1 y.1.2.2.2.2.2.2.2.2.2.2.2.2.2.2.2.1 y.1.2.2.2.2.2.2.2.2.2.2.2.2.2.2.2.2.1 y.1.2.2.2.2.2.2.2.2.2.2.2.2.2.2.2.2.2.1 (fun u0 u1 u2 u3 u4 u5 u6 u7 u8 u9 u10 u11 u12 u13 u14 u15 u16 u17 u18 => K (u0, ()) ((u1, (u2, (u3, (u4, (u5, (u6, (u7, (u8, (u9, (u10, (u11, (u12, (u13, (u14, (u15, (u16, (u17, (u18, ())))))))))))))))))), ()))⟩
def Ifoot_reader_rule_1 : Inst := Jfoot_reader_rule_1 Xfoot_reader_rule_1
theorem Efoot_reader_rule_1 (xstrings_CutPrefix : (ByteArray) → (ByteArray) → ((ByteArray) → (Bool) → Prop) → Prop) (xrule_Parse : (ByteArray) → ((Int × Int × Int × Int × Int × Unit) → (ByteArray) → (Bool) → Prop) → Prop) (x : PL.T (.cons (.ptr 0 0) (.cons (.ptr 0 13) .nil))) (y : PH.T (.cons 0 (.cells [.str, .int .i64, .bool, .str, .int .i64, .bool, .str, .bool, .int .i64, .int .i64, .int .i64, .int .i64, .int .i64, .int .i64, .int .i64, .int .i64, .int .i64, .int .i64] (.cons .str (.cons (.int .i64) (.cons .bool (.cons .str (.cons (.int .i64) (.cons .bool (.cons .str (.cons .bool (.cons (.int .i64) (.cons (.int .i64) (.cons (.int .i64) (.cons (.int .i64) (.cons (.int .i64) (.cons (.int .i64) (.cons (.int .i64) (.cons (.int .i64) (.cons (.int .i64) (.cons (.int .i64) .nil))))))))))))))))))) .nil)) (K : PL.T (.cons .bool .nil) → PH.T (.cons 0 (.cells [.str, .int .i64, .bool, .str, .int .i64, .bool, .str, .bool, .int .i64, .int .i64, .int .i64, .int .i64, .int .i64, .int .i64, .int .i64, .int .i64, .int .i64, .int .i64] (.cons .str (.cons (.int .i64) (.cons .bool (.cons .str (.cons (.int .i64) (.cons .bool (.cons .str (.cons .bool (.cons (.int .i64) (.cons (.int .i64) (.cons (.int .i64) (.cons (.int .i64) (.cons (.int .i64) (.cons (.int .i64) (.cons (.int .i64) (.cons (.int .i64) (.cons (.int .i64) (.cons (.int .i64) .nil))))))))))))))))))) .nil) → Prop) : Yfoot_reader_rule_1 xstrings_CutPrefix xrule_Parse y.1.1 y.1.2.1 y.1.2.2.1 y.1.2.2.2.1 y.1.2.2.2.2.1 y.1.2.2.2.2.2.1 y.1.2.2.2.2.2.2.1 y.1.2.2.2.2.2.2.2.1 y.1.2.2.2.2.2.2.2.2.1 y.1.2.2.2.2.2.2.2.2.2.1 y.1.2.2.2.2.2.2.2.2.2.2.1 y.1.2.2.2.2.2.2.2.2.2.2.2.1 y.1.2.2.2.2.2.2.2.2.2.2.2.2.1 y.1.2.2.2.2.2.2.2.2.2.2.2.2.2.1 y.1.2.2.2.2.2.2.2.2.2.2.2.2.2.2.1 y.1.2.2.2.2.2.2.2.2.2.2.2.2.2.2.2.1 y.1.2.2.2.2.2.2.2.2.2.2.2.2.2.2.2.2.1 y.1.2.2.2.2.2.2.2.2.2.2.2.2.2.2.2.2.2.1 (fun u0 u1 u2 u3 u4 u5 u6 u7 u8 u9 u10 u11 u12 u13 u14 u15 u16 u17 u18 => K (u0, ()) ((u1, (u2, (u3, (u4, (u5, (u6, (u7, (u8, (u9, (u10, (u11, (u12, (u13, (u14, (u15, (u16, (u17, (u18, ())))))))))))))))))), ())) = bodyC (envP Tryd.prog 30 gives ⟨tabC [Jstrings_CutPrefix xstrings_CutPrefix, Jrule_Parse xrule_Parse], tabL []⟩) Tryd.f38 (Tryd.f38.body.getD .skip) (PL.enc (.cons (.ptr 0 0) (.cons (.ptr 0 13) .nil)) x) (PH.enc (.cons 0 (.cells [.str, .int .i64, .bool, .str, .int .i64, .bool, .str, .bool, .int .i64, .int .i64, .int .i64, .int .i64, .int .i64, .int .i64, .int .i64, .int .i64, .int .i64, .int .i64] (.cons .str (.cons (.int .i64) (.cons .bool (.cons .str (.cons (.int .i64) (.cons .bool (.cons .str (.cons .bool (.cons (.int .i64) (.cons (.int .i64) (.cons (.int .i64) (.cons (.int .i64) (.cons (.int .i64) (.cons (.int .i64) (.cons (.int .i64) (.cons (.int .i64) (.cons (.int .i64) (.cons (.int .i64) .nil))))))))))))))))))) .nil) y) (resK (.cons .bool .nil) (.cons 0 (.cells [.str, .int .i64, .bool, .str, .int .i64, .bool, .str, .bool, .int .i64, .int .i64, .int .i64, .int .i64, .int .i64, .int .i64, .int .i64, .int .i64, .int .i64, .int .i64] (.cons .str (.cons (.int .i64) (.cons .bool (.cons .str (.cons (.int .i64) (.cons .bool (.cons .str (.cons .bool (.cons (.int .i64) (.cons (.int .i64) (.cons (.int .i64) (.cons (.int .i64) (.cons (.int .i64) (.cons (.int .i64) (.cons (.int .i64) (.cons (.int .i64) (.cons (.int .i64) (.cons (.int .i64) .nil))))))))))))))))))) .nil) K) := by kernel_rfl
theorem Ifoot_reader_rule_1_ok : InstOk Tryd.prog G.1 Ifoot_reader_rule_1 := inst_ok (gives := gives) (is := [Istrings_CutPrefix, Irule_Parse]) [] (okCons Istrings_CutPrefix_ok (okCons Irule_Parse_ok okNil)) 30 follows Tryd.func38 (by kernel_rfl) (fun x => by kernel_rfl) (fun x y K => Efoot_reader_rule_1 Xstrings_CutPrefix Xrule_Parse x y K)

/- (*epact/foot.reader).to -/
def Yfoot_reader_to (xfoot_reader_rule_1 : (ByteArray) → (Int) → (Bool) → (ByteArray) → (Int) → (Bool) → (ByteArray) → (Bool) → (Int) → (Int) → (Int) → (Int) → (Int) → (Int) → (Int) → (Int) → (Int) → (Int) → ((Bool) → (ByteArray) → (Int) → (Bool) → (ByteArray) → (Int) → (Bool) → (ByteArray) → (Bool) → (Int) → (Int) → (Int) → (Int) → (Int) → (Int) → (Int) → (Int) → (Int) → (Int) → Prop) → Prop) (a0 : ByteArray) (a1 : Int) (a2 : Bool) (a3 : ByteArray) (a4 : Int) (a5 : Bool) (a6 : ByteArray) (a7 : Bool) (a8 : Int) (a9 : Int) (a10 : Int) (a11 : Int) (a12 : Int) (a13 : Int) (a14 : Int) (a15 : Int) (a16 : Int) (a17 : Int) (K : (Bool) → (ByteArray) → (Int) → (Bool) → (ByteArray) → (Int) → (Bool) → (ByteArray) → (Bool) → (Int) → (Int) → (Int) → (Int) → (Int) → (Int) → (Int) → (Int) → (Int) → (Int) → Prop) : Prop :=
  xfoot_reader_rule_1 a0 a1 a2 a3 a4 a5 a6 a7 a8 a9 a10 a11 a12 a13 a14 a15 a16 a17 (fun r18 r19 r20 r21 r22 r23 r24 r25 r26 r27 r28 r29 r30 r31 r32 r33 r34 r35 r36 =>
    K r18 r19 r20 r21 r22 r23 r24 r25 r26 r27 r28 r29 r30 r31 r32 r33 r34 r35 r36)
def Xfoot_reader_to (a0 : ByteArray) (a1 : Int) (a2 : Bool) (a3 : ByteArray) (a4 : Int) (a5 : Bool) (a6 : ByteArray) (a7 : Bool) (a8 : Int) (a9 : Int) (a10 : Int) (a11 : Int) (a12 : Int) (a13 : Int) (a14 : Int) (a15 : Int) (a16 : Int) (a17 : Int) (K : (Bool) → (ByteArray) → (Int) → (Bool) → (ByteArray) → (Int) → (Bool) → (ByteArray) → (Bool) → (Int) → (Int) → (Int) → (Int) → (Int) → (Int) → (Int) → (Int) → (Int) → (Int) → Prop) : Prop := Yfoot_reader_to Xfoot_reader_rule_1 a0 a1 a2 a3 a4 a5 a6 a7 a8 a9 a10 a11 a12 a13 a14 a15 a16 a17 K
def Jfoot_reader_to (X : (ByteArray) → (Int) → (Bool) → (ByteArray) → (Int) → (Bool) → (ByteArray) → (Bool) → (Int) → (Int) → (Int) → (Int) → (Int) → (Int) → (Int) → (Int) → (Int) → (Int) → ((Bool) → (ByteArray) → (Int) → (Bool) → (ByteArray) → (Int) → (Bool) → (ByteArray) → (Bool) → (Int) → (Int) → (Int) → (Int) → (Int) → (Int) → (Int) → (Int) → (Int) → (Int) → Prop) → Prop) : Inst := ⟨24, (.cons (.ptr 0 0) .nil), (.cons 0 (.cells [.str, .int .i64, .bool, .str, .int .i64, .bool, .str, .bool, .int .i64, .int .i64, .int .i64, .int .i64, .int .i64, .int .i64, .int .i64, .int .i64, .int .i64, .int .i64] (.cons .str (.cons (.int .i64) (.cons .bool (.cons .str (.cons (.int .i64) (.cons .bool (.cons .str (.cons .bool (.cons (.int .i64) (.cons (.int .i64) (.cons (.int .i64) (.cons (.int .i64) (.cons (.int .i64) (.cons (.int .i64) (.cons (.int .i64) (.cons (.int .i64) (.cons (.int .i64) (.cons (.int .i64) .nil))))))))))))))))))) .nil), (.cons .bool .nil), (.cons 0 (.cells [.str, .int .i64, .bool, .str, .int .i64, .bool, .str, .bool, .int .i64, .int .i64, .int .i64, .int .i64, .int .i64, .int .i64, .int .i64, .int .i64, .int .i64, .int .i64] (.cons .str (.cons (.int .i64) (.cons .bool (.cons .str (.cons (.int .i64) (.cons .bool (.cons .str (.cons .bool (.cons (.int .i64) (.cons (.int .i64) (.cons (.int .i64) (.cons (.int .i64) (.cons (.int .i64) (.cons (.int .i64) (.cons (.int .i64) (.cons (.int .i64) (.cons (.int .i64) (.cons (.int .i64) .nil))))))))))))))))))) .nil), fun x y K => X y.1.1 y.1.2.1 y.1.2.2.1 y.1.2.2.2.1 y.1.2.2.2.2.1 y.1.2.2.2.2.2.1 y.1.2.2.2.2.2.2.1 y.1.2.2.2.2.2.2.2.1 y.1.2.2.2.2.2.2.2.2.1 y.1.2.2.2.2.2.2.2.2.2.1 y.1.2.2.2.2.2.2.2.2.2.2.1 y.1.2.2.2.2.2.2.2.2.2.2.2.1 y.1.2.2.2.2.2.2.2.2.2.2.2.2.1 y.1.2.2.2.2.2.2.2.2.2.2.2.2.2.1 y.1.2.2.2.2.2.2.2.2.2.2.2.2.2.2.1 y.1.2.2.2.2.2.2.2.2.2.2.2.2.2.2.2.1 y.1.2.2.2.2.2.2.2.2.2.2.2.2.2.2.2.2.1 y.1.2.2.2.2.2.2.2.2.2.2.2.2.2.2.2.2.2.1 (fun u0 u1 u2 u3 u4 u5 u6 u7 u8 u9 u10 u11 u12 u13 u14 u15 u16 u17 u18 => K (u0, ()) ((u1, (u2, (u3, (u4, (u5, (u6, (u7, (u8, (u9, (u10, (u11, (u12, (u13, (u14, (u15, (u16, (u17, (u18, ())))))))))))))))))), ()))⟩
def Ifoot_reader_to : Inst := Jfoot_reader_to Xfoot_reader_to
theorem Efoot_reader_to (xfoot_reader_rule_1 : (ByteArray) → (Int) → (Bool) → (ByteArray) → (Int) → (Bool) → (ByteArray) → (Bool) → (Int) → (Int) → (Int) → (Int) → (Int) → (Int) → (Int) → (Int) → (Int) → (Int) → ((Bool) → (ByteArray) → (Int) → (Bool) → (ByteArray) → (Int) → (Bool) → (ByteArray) → (Bool) → (Int) → (Int) → (Int) → (Int) → (Int) → (Int) → (Int) → (Int) → (Int) → (Int) → Prop) → Prop) (x : PL.T (.cons (.ptr 0 0) .nil)) (y : PH.T (.cons 0 (.cells [.str, .int .i64, .bool, .str, .int .i64, .bool, .str, .bool, .int .i64, .int .i64, .int .i64, .int .i64, .int .i64, .int .i64, .int .i64, .int .i64, .int .i64, .int .i64] (.cons .str (.cons (.int .i64) (.cons .bool (.cons .str (.cons (.int .i64) (.cons .bool (.cons .str (.cons .bool (.cons (.int .i64) (.cons (.int .i64) (.cons (.int .i64) (.cons (.int .i64) (.cons (.int .i64) (.cons (.int .i64) (.cons (.int .i64) (.cons (.int .i64) (.cons (.int .i64) (.cons (.int .i64) .nil))))))))))))))))))) .nil)) (K : PL.T (.cons .bool .nil) → PH.T (.cons 0 (.cells [.str, .int .i64, .bool, .str, .int .i64, .bool, .str, .bool, .int .i64, .int .i64, .int .i64, .int .i64, .int .i64, .int .i64, .int .i64, .int .i64, .int .i64, .int .i64] (.cons .str (.cons (.int .i64) (.cons .bool (.cons .str (.cons (.int .i64) (.cons .bool (.cons .str (.cons .bool (.cons (.int .i64) (.cons (.int .i64) (.cons (.int .i64) (.cons (.int .i64) (.cons (.int .i64) (.cons (.int .i64) (.cons (.int .i64) (.cons (.int .i64) (.cons (.int .i64) (.cons (.int .i64) .nil))))))))))))))))))) .nil) → Prop) : Yfoot_reader_to xfoot_reader_rule_1 y.1.1 y.1.2.1 y.1.2.2.1 y.1.2.2.2.1 y.1.2.2.2.2.1 y.1.2.2.2.2.2.1 y.1.2.2.2.2.2.2.1 y.1.2.2.2.2.2.2.2.1 y.1.2.2.2.2.2.2.2.2.1 y.1.2.2.2.2.2.2.2.2.2.1 y.1.2.2.2.2.2.2.2.2.2.2.1 y.1.2.2.2.2.2.2.2.2.2.2.2.1 y.1.2.2.2.2.2.2.2.2.2.2.2.2.1 y.1.2.2.2.2.2.2.2.2.2.2.2.2.2.1 y.1.2.2.2.2.2.2.2.2.2.2.2.2.2.2.1 y.1.2.2.2.2.2.2.2.2.2.2.2.2.2.2.2.1 y.1.2.2.2.2.2.2.2.2.2.2.2.2.2.2.2.2.1 y.1.2.2.2.2.2.2.2.2.2.2.2.2.2.2.2.2.2.1 (fun u0 u1 u2 u3 u4 u5 u6 u7 u8 u9 u10 u11 u12 u13 u14 u15 u16 u17 u18 => K (u0, ()) ((u1, (u2, (u3, (u4, (u5, (u6, (u7, (u8, (u9, (u10, (u11, (u12, (u13, (u14, (u15, (u16, (u17, (u18, ())))))))))))))))))), ())) = bodyC (envP Tryd.prog 9 gives ⟨tabC [Jfoot_reader_rule_1 xfoot_reader_rule_1], tabL []⟩) Tryd.f24 (Tryd.f24.body.getD .skip) (PL.enc (.cons (.ptr 0 0) .nil) x) (PH.enc (.cons 0 (.cells [.str, .int .i64, .bool, .str, .int .i64, .bool, .str, .bool, .int .i64, .int .i64, .int .i64, .int .i64, .int .i64, .int .i64, .int .i64, .int .i64, .int .i64, .int .i64] (.cons .str (.cons (.int .i64) (.cons .bool (.cons .str (.cons (.int .i64) (.cons .bool (.cons .str (.cons .bool (.cons (.int .i64) (.cons (.int .i64) (.cons (.int .i64) (.cons (.int .i64) (.cons (.int .i64) (.cons (.int .i64) (.cons (.int .i64) (.cons (.int .i64) (.cons (.int .i64) (.cons (.int .i64) .nil))))))))))))))))))) .nil) y) (resK (.cons .bool .nil) (.cons 0 (.cells [.str, .int .i64, .bool, .str, .int .i64, .bool, .str, .bool, .int .i64, .int .i64, .int .i64, .int .i64, .int .i64, .int .i64, .int .i64, .int .i64, .int .i64, .int .i64] (.cons .str (.cons (.int .i64) (.cons .bool (.cons .str (.cons (.int .i64) (.cons .bool (.cons .str (.cons .bool (.cons (.int .i64) (.cons (.int .i64) (.cons (.int .i64) (.cons (.int .i64) (.cons (.int .i64) (.cons (.int .i64) (.cons (.int .i64) (.cons (.int .i64) (.cons (.int .i64) (.cons (.int .i64) .nil))))))))))))))))))) .nil) K) := by kernel_rfl
theorem Ifoot_reader_to_ok : InstOk Tryd.prog G.1 Ifoot_reader_to := inst_ok (gives := gives) (is := [Ifoot_reader_rule_1]) [] (okCons Ifoot_reader_rule_1_ok okNil) 9 follows Tryd.func24 (by kernel_rfl) (fun x => by kernel_rfl) (fun x y K => Efoot_reader_to Xfoot_reader_rule_1 x y K)

/- epact/foot.Parse -/
def Lfoot_Parse_0p : Lp := ⟨1835036, [], .nil, .nil, 12⟩
def Yfoot_Parse (xfoot_reader_usual : (ByteArray) → (Int) → (Bool) → (ByteArray) → (Int) → (Bool) → (ByteArray) → (Bool) → (Int) → (Int) → (Int) → (Int) → (Int) → (Int) → (Int) → (Int) → (Int) → (Int) → ((Bool) → (ByteArray) → (Int) → (Bool) → (ByteArray) → (Int) → (Bool) → (ByteArray) → (Bool) → (Int) → (Int) → (Int) → (Int) → (Int) → (Int) → (Int) → (Int) → (Int) → (Int) → Prop) → Prop) (xfoot_Right : (Int × Bool × ByteArray × Int × Bool × ByteArray × Bool × Int × Int × Int × Int × Int × Int × Int × Int × Int × Int × Unit) → ((Bool) → Prop) → Prop) (xfoot_reader_summer : (ByteArray) → (Int) → (Bool) → (ByteArray) → (Int) → (Bool) → (ByteArray) → (Bool) → (Int) → (Int) → (Int) → (Int) → (Int) → (Int) → (Int) → (Int) → (Int) → (Int) → ((Bool) → (ByteArray) → (Int) → (Bool) → (ByteArray) → (Int) → (Bool) → (ByteArray) → (Bool) → (Int) → (Int) → (Int) → (Int) → (Int) → (Int) → (Int) → (Int) → (Int) → (Int) → Prop) → Prop) (xfoot_reader_from : (ByteArray) → (Int) → (Bool) → (ByteArray) → (Int) → (Bool) → (ByteArray) → (Bool) → (Int) → (Int) → (Int) → (Int) → (Int) → (Int) → (Int) → (Int) → (Int) → (Int) → ((Bool) → (ByteArray) → (Int) → (Bool) → (ByteArray) → (Int) → (Bool) → (ByteArray) → (Bool) → (Int) → (Int) → (Int) → (Int) → (Int) → (Int) → (Int) → (Int) → (Int) → (Int) → Prop) → Prop) (xfoot_reader_to : (ByteArray) → (Int) → (Bool) → (ByteArray) → (Int) → (Bool) → (ByteArray) → (Bool) → (Int) → (Int) → (Int) → (Int) → (Int) → (Int) → (Int) → (Int) → (Int) → (Int) → ((Bool) → (ByteArray) → (Int) → (Bool) → (ByteArray) → (Int) → (Bool) → (ByteArray) → (Bool) → (Int) → (Int) → (Int) → (Int) → (Int) → (Int) → (Int) → (Int) → (Int) → (Int) → Prop) → Prop) (a0 : ByteArray) (K : (Int × Bool × ByteArray × Int × Bool × ByteArray × Bool × Int × Int × Int × Int × Int × Int × Int × Int × Int × Int × Unit) → (Bool) → Prop) : Prop :=
  xfoot_reader_usual a0 (0 : Int) false (ByteArray.mk #[]) (0 : Int) false (ByteArray.mk #[]) false (0 : Int) (0 : Int) (0 : Int) (0 : Int) (0 : Int) (0 : Int) (0 : Int) (0 : Int) (0 : Int) (0 : Int) (fun r1 r2 r3 r4 r5 r6 r7 r8 r9 r10 r11 r12 r13 r14 r15 r16 r17 r18 r19 =>
    (if (!r1) = true then
      K ((0 : Int), false, ByteArray.mk #[], (0 : Int), false, ByteArray.mk #[], false, (0 : Int), (0 : Int), (0 : Int), (0 : Int), (0 : Int), (0 : Int), (0 : Int), (0 : Int), (0 : Int), (0 : Int), ()) false
    else
      (if (ByteArray.toList r2 == ByteArray.toList (ByteArray.mk #[])) = true then
        (if (!ByteArray.toList r2 == ByteArray.toList (ByteArray.mk #[])) = true then
          K ((0 : Int), false, ByteArray.mk #[], (0 : Int), false, ByteArray.mk #[], false, (0 : Int), (0 : Int), (0 : Int), (0 : Int), (0 : Int), (0 : Int), (0 : Int), (0 : Int), (0 : Int), (0 : Int), ()) false
        else
          xfoot_Right (r3, r4, r5, r6, r7, r8, r9, r10, r11, r12, r13, r14, r15, r16, r17, r18, r19, ()) (fun r20 =>
            (if (!r20) = true then
              K ((0 : Int), false, ByteArray.mk #[], (0 : Int), false, ByteArray.mk #[], false, (0 : Int), (0 : Int), (0 : Int), (0 : Int), (0 : Int), (0 : Int), (0 : Int), (0 : Int), (0 : Int), (0 : Int), ()) false
            else
              K (r3, r4, r5, r6, r7, r8, r9, r10, r11, r12, r13, r14, r15, r16, r17, r18, r19, ()) true)))
      else
        xfoot_reader_summer r2 r3 r4 r5 r6 r7 r8 r9 r10 r11 r12 r13 r14 r15 r16 r17 r18 r19 (fun r21 r22 r23 r24 r25 r26 r27 r28 r29 r30 r31 r32 r33 r34 r35 r36 r37 r38 r39 =>
          (if (!r21) = true then
            K ((0 : Int), false, ByteArray.mk #[], (0 : Int), false, ByteArray.mk #[], false, (0 : Int), (0 : Int), (0 : Int), (0 : Int), (0 : Int), (0 : Int), (0 : Int), (0 : Int), (0 : Int), (0 : Int), ()) false
          else
            xfoot_reader_from r22 r23 r24 r25 r26 r27 r28 r29 r30 r31 r32 r33 r34 r35 r36 r37 r38 r39 (fun r40 r41 r42 r43 r44 r45 r46 r47 r48 r49 r50 r51 r52 r53 r54 r55 r56 r57 r58 =>
              (if (!r40) = true then
                K ((0 : Int), false, ByteArray.mk #[], (0 : Int), false, ByteArray.mk #[], false, (0 : Int), (0 : Int), (0 : Int), (0 : Int), (0 : Int), (0 : Int), (0 : Int), (0 : Int), (0 : Int), (0 : Int), ()) false
              else
                xfoot_reader_to r41 r42 r43 r44 r45 r46 r47 r48 r49 r50 r51 r52 r53 r54 r55 r56 r57 r58 (fun r59 r60 r61 r62 r63 r64 r65 r66 r67 r68 r69 r70 r71 r72 r73 r74 r75 r76 r77 =>
                  (if (!r59) = true then
                    K ((0 : Int), false, ByteArray.mk #[], (0 : Int), false, ByteArray.mk #[], false, (0 : Int), (0 : Int), (0 : Int), (0 : Int), (0 : Int), (0 : Int), (0 : Int), (0 : Int), (0 : Int), (0 : Int), ()) false
                  else
                    (if (!ByteArray.toList r60 == ByteArray.toList (ByteArray.mk #[])) = true then
                      K ((0 : Int), false, ByteArray.mk #[], (0 : Int), false, ByteArray.mk #[], false, (0 : Int), (0 : Int), (0 : Int), (0 : Int), (0 : Int), (0 : Int), (0 : Int), (0 : Int), (0 : Int), (0 : Int), ()) false
                    else
                      xfoot_Right (r61, r62, r63, r64, r65, r66, r67, r68, r69, r70, r71, r72, r73, r74, r75, r76, r77, ()) (fun r78 =>
                        (if (!r78) = true then
                          K ((0 : Int), false, ByteArray.mk #[], (0 : Int), false, ByteArray.mk #[], false, (0 : Int), (0 : Int), (0 : Int), (0 : Int), (0 : Int), (0 : Int), (0 : Int), (0 : Int), (0 : Int), (0 : Int), ()) false
                        else
                          K (r61, r62, r63, r64, r65, r66, r67, r68, r69, r70, r71, r72, r73, r74, r75, r76, r77, ()) true))))))))))))
def Xfoot_Parse (a0 : ByteArray) (K : (Int × Bool × ByteArray × Int × Bool × ByteArray × Bool × Int × Int × Int × Int × Int × Int × Int × Int × Int × Int × Unit) → (Bool) → Prop) : Prop := Yfoot_Parse Xfoot_reader_usual Xfoot_Right Xfoot_reader_summer Xfoot_reader_from Xfoot_reader_to a0 K
def Jfoot_Parse (X : (ByteArray) → ((Int × Bool × ByteArray × Int × Bool × ByteArray × Bool × Int × Int × Int × Int × Int × Int × Int × Int × Int × Int × Unit) → (Bool) → Prop) → Prop) : Inst := ⟨10, (.cons .str .nil), .nil, (.cons (.agg (.cons (.int .i64) (.cons .bool (.cons .str (.cons (.int .i64) (.cons .bool (.cons .str (.cons .bool (.cons (.int .i64) (.cons (.int .i64) (.cons (.int .i64) (.cons (.int .i64) (.cons (.int .i64) (.cons (.int .i64) (.cons (.int .i64) (.cons (.int .i64) (.cons (.int .i64) (.cons (.int .i64) .nil)))))))))))))))))) (.cons .bool .nil)), .nil, fun x y K => X x.1 (fun u0 u1 => K (u0, (u1, ())) ())⟩
def Ifoot_Parse : Inst := Jfoot_Parse Xfoot_Parse
theorem Efoot_Parse (xfoot_reader_usual : (ByteArray) → (Int) → (Bool) → (ByteArray) → (Int) → (Bool) → (ByteArray) → (Bool) → (Int) → (Int) → (Int) → (Int) → (Int) → (Int) → (Int) → (Int) → (Int) → (Int) → ((Bool) → (ByteArray) → (Int) → (Bool) → (ByteArray) → (Int) → (Bool) → (ByteArray) → (Bool) → (Int) → (Int) → (Int) → (Int) → (Int) → (Int) → (Int) → (Int) → (Int) → (Int) → Prop) → Prop) (xfoot_Right : (Int × Bool × ByteArray × Int × Bool × ByteArray × Bool × Int × Int × Int × Int × Int × Int × Int × Int × Int × Int × Unit) → ((Bool) → Prop) → Prop) (xfoot_reader_summer : (ByteArray) → (Int) → (Bool) → (ByteArray) → (Int) → (Bool) → (ByteArray) → (Bool) → (Int) → (Int) → (Int) → (Int) → (Int) → (Int) → (Int) → (Int) → (Int) → (Int) → ((Bool) → (ByteArray) → (Int) → (Bool) → (ByteArray) → (Int) → (Bool) → (ByteArray) → (Bool) → (Int) → (Int) → (Int) → (Int) → (Int) → (Int) → (Int) → (Int) → (Int) → (Int) → Prop) → Prop) (xfoot_reader_from : (ByteArray) → (Int) → (Bool) → (ByteArray) → (Int) → (Bool) → (ByteArray) → (Bool) → (Int) → (Int) → (Int) → (Int) → (Int) → (Int) → (Int) → (Int) → (Int) → (Int) → ((Bool) → (ByteArray) → (Int) → (Bool) → (ByteArray) → (Int) → (Bool) → (ByteArray) → (Bool) → (Int) → (Int) → (Int) → (Int) → (Int) → (Int) → (Int) → (Int) → (Int) → (Int) → Prop) → Prop) (xfoot_reader_to : (ByteArray) → (Int) → (Bool) → (ByteArray) → (Int) → (Bool) → (ByteArray) → (Bool) → (Int) → (Int) → (Int) → (Int) → (Int) → (Int) → (Int) → (Int) → (Int) → (Int) → ((Bool) → (ByteArray) → (Int) → (Bool) → (ByteArray) → (Int) → (Bool) → (ByteArray) → (Bool) → (Int) → (Int) → (Int) → (Int) → (Int) → (Int) → (Int) → (Int) → (Int) → (Int) → Prop) → Prop) (x : PL.T (.cons .str .nil)) (y : PH.T .nil) (K : PL.T (.cons (.agg (.cons (.int .i64) (.cons .bool (.cons .str (.cons (.int .i64) (.cons .bool (.cons .str (.cons .bool (.cons (.int .i64) (.cons (.int .i64) (.cons (.int .i64) (.cons (.int .i64) (.cons (.int .i64) (.cons (.int .i64) (.cons (.int .i64) (.cons (.int .i64) (.cons (.int .i64) (.cons (.int .i64) .nil)))))))))))))))))) (.cons .bool .nil)) → PH.T .nil → Prop) : Yfoot_Parse xfoot_reader_usual xfoot_Right xfoot_reader_summer xfoot_reader_from xfoot_reader_to x.1 (fun u0 u1 => K (u0, (u1, ())) ()) = bodyC (envP Tryd.prog 57 gives ⟨tabC [Jfoot_reader_usual xfoot_reader_usual, Jfoot_Right xfoot_Right, Jfoot_reader_summer xfoot_reader_summer, Jfoot_reader_from xfoot_reader_from, Jfoot_reader_to xfoot_reader_to], tabL [Lfoot_Parse_0p]⟩) Tryd.f10 (Tryd.f10.body.getD .skip) (PL.enc (.cons .str .nil) x) (PH.enc .nil y) (resK (.cons (.agg (.cons (.int .i64) (.cons .bool (.cons .str (.cons (.int .i64) (.cons .bool (.cons .str (.cons .bool (.cons (.int .i64) (.cons (.int .i64) (.cons (.int .i64) (.cons (.int .i64) (.cons (.int .i64) (.cons (.int .i64) (.cons (.int .i64) (.cons (.int .i64) (.cons (.int .i64) (.cons (.int .i64) .nil)))))))))))))))))) (.cons .bool .nil)) .nil K) := by kernel_rfl
theorem Ifoot_Parse_ok : InstOk Tryd.prog G.1 Ifoot_Parse := inst_ok (gives := gives) (is := [Ifoot_reader_usual, Ifoot_Right, Ifoot_reader_summer, Ifoot_reader_from, Ifoot_reader_to]) [Lfoot_Parse_0p] (okCons Ifoot_reader_usual_ok (okCons Ifoot_Right_ok (okCons Ifoot_reader_summer_ok (okCons Ifoot_reader_from_ok (okCons Ifoot_reader_to_ok okNil))))) 57 follows Tryd.func10 (by kernel_rfl) (fun x => by kernel_rfl) (fun x y K => Efoot_Parse Xfoot_reader_usual Xfoot_Right Xfoot_reader_summer Xfoot_reader_from Xfoot_reader_to x y K)

/- epact/rule.pair -/
def Yrule_pair (xitoa : Int → (ByteArray → Prop) → Prop) (a0 : Int) (K : (ByteArray) → Prop) : Prop :=
  xitoa (w64 (Int.tdiv a0 (10 : Int))) (fun r1 =>
    (if (↑((1 : Nat) + ByteArray.size r1) : Int) > (9223372036854775807 : Int) then
      False
    else
      xitoa (Int.tmod a0 (10 : Int)) (fun r2 =>
        (if (↑(ByteArray.size (ByteArray.mk #[(58 : UInt8)] ++ r1) + ByteArray.size r2) : Int) > (9223372036854775807 : Int) then
          False
        else
          (lt (ByteArray.mk #[(58 : UInt8)] ++ r1 ++ r2) fun v3 =>
          K v3)))))
def Xrule_pair (a0 : Int) (K : (ByteArray) → Prop) : Prop := Yrule_pair Xitoa a0 K
def Jrule_pair (X : (Int) → ((ByteArray) → Prop) → Prop) : Inst := ⟨31, (.cons (.int .i64) .nil), .nil, (.cons .str .nil), .nil, fun x y K => X x.1 (fun u0 => K (u0, ()) ())⟩
def Irule_pair : Inst := Jrule_pair Xrule_pair
theorem Erule_pair (xitoa : Int → (ByteArray → Prop) → Prop) (x : PL.T (.cons (.int .i64) .nil)) (y : PH.T .nil) (K : PL.T (.cons .str .nil) → PH.T .nil → Prop) : Yrule_pair xitoa x.1 (fun u0 => K (u0, ()) ()) = bodyC (envP Tryd.prog 11 gives ⟨tabC [Jitoa xitoa], tabL []⟩) Tryd.f31 (Tryd.f31.body.getD .skip) (PL.enc (.cons (.int .i64) .nil) x) (PH.enc .nil y) (resK (.cons .str .nil) .nil K) := by kernel_rfl
theorem Irule_pair_ok : InstOk Tryd.prog G.1 Irule_pair := inst_ok (gives := gives) (is := [Iitoa]) [] (okCons Iitoa_ok okNil) 11 follows Tryd.func31 (by kernel_rfl) (fun x => by kernel_rfl) (fun x y K => Erule_pair Xitoa x y K)

/- epact/rule.Clock -/
def Yrule_Clock (xrule_within : (Int) → (Int) → (Int) → ((Bool) → Prop) → Prop) (xitoa : Int → (ByteArray → Prop) → Prop) (xrule_pair : (Int) → ((ByteArray) → Prop) → Prop) (a0 : Int) (K : (ByteArray) → (Bool) → Prop) : Prop :=
  xrule_within a0 (-604799 : Int) (604799 : Int) (fun r1 =>
    (if (!r1) = true then
      K (ByteArray.mk #[]) false
    else
      (if decide (a0 < (0 : Int)) = true then
        (lt (w64 (Int.tdiv (w64 ((0 : Int) - a0)) (3600 : Int))) fun v2 =>
        xitoa v2 (fun r3 =>
          (if (↑((1 : Nat) + ByteArray.size r3) : Int) > (9223372036854775807 : Int) then
            False
          else
            (lt (w64 (Int.tdiv (w64 ((0 : Int) - a0)) (60 : Int))) fun v4 =>
            (if (Int.tmod (w64 ((0 : Int) - a0)) (60 : Int) != (0 : Int)) = true then
              xrule_pair (Int.tmod v4 (60 : Int)) (fun r5 =>
                xrule_pair (Int.tmod (w64 ((0 : Int) - a0)) (60 : Int)) (fun r6 =>
                  (if (↑(ByteArray.size r5 + ByteArray.size r6) : Int) > (9223372036854775807 : Int) then
                    False
                  else
                    (if (↑(ByteArray.size (ByteArray.mk #[(45 : UInt8)] ++ r3) + ByteArray.size (r5 ++ r6)) : Int) > (9223372036854775807 : Int) then
                      False
                    else
                      (lt (ByteArray.mk #[(45 : UInt8)] ++ r3 ++ (r5 ++ r6)) fun v7 =>
                      K v7 true)))))
            else
              (if (Int.tmod v4 (60 : Int) != (0 : Int)) = true then
                xrule_pair (Int.tmod v4 (60 : Int)) (fun r8 =>
                  (if (↑(ByteArray.size (ByteArray.mk #[(45 : UInt8)] ++ r3) + ByteArray.size r8) : Int) > (9223372036854775807 : Int) then
                    False
                  else
                    (lt (ByteArray.mk #[(45 : UInt8)] ++ r3 ++ r8) fun v9 =>
                    K v9 true)))
              else
                K (ByteArray.mk #[(45 : UInt8)] ++ r3) true))))))
      else
        xitoa (w64 (Int.tdiv a0 (3600 : Int))) (fun r10 =>
          (if (↑((0 : Nat) + ByteArray.size r10) : Int) > (9223372036854775807 : Int) then
            False
          else
            (if (Int.tmod a0 (60 : Int) != (0 : Int)) = true then
              xrule_pair (Int.tmod (w64 (Int.tdiv a0 (60 : Int))) (60 : Int)) (fun r11 =>
                xrule_pair (Int.tmod a0 (60 : Int)) (fun r12 =>
                  (if (↑(ByteArray.size r11 + ByteArray.size r12) : Int) > (9223372036854775807 : Int) then
                    False
                  else
                    (if (↑(ByteArray.size (ByteArray.mk #[] ++ r10) + ByteArray.size (r11 ++ r12)) : Int) > (9223372036854775807 : Int) then
                      False
                    else
                      (lt (ByteArray.mk #[] ++ r10 ++ (r11 ++ r12)) fun v13 =>
                      K v13 true)))))
            else
              (if (Int.tmod (w64 (Int.tdiv a0 (60 : Int))) (60 : Int) != (0 : Int)) = true then
                xrule_pair (Int.tmod (w64 (Int.tdiv a0 (60 : Int))) (60 : Int)) (fun r14 =>
                  (if (↑(ByteArray.size (ByteArray.mk #[] ++ r10) + ByteArray.size r14) : Int) > (9223372036854775807 : Int) then
                    False
                  else
                    K (ByteArray.mk #[] ++ r10 ++ r14) true))
              else
                K (ByteArray.mk #[] ++ r10) true)))))))
def Xrule_Clock (a0 : Int) (K : (ByteArray) → (Bool) → Prop) : Prop := Yrule_Clock Xrule_within Xitoa Xrule_pair a0 K
def Jrule_Clock (X : (Int) → ((ByteArray) → (Bool) → Prop) → Prop) : Inst := ⟨16, (.cons (.int .i64) .nil), .nil, (.cons .str (.cons .bool .nil)), .nil, fun x y K => X x.1 (fun u0 u1 => K (u0, (u1, ())) ())⟩
def Irule_Clock : Inst := Jrule_Clock Xrule_Clock
theorem Erule_Clock (xrule_within : (Int) → (Int) → (Int) → ((Bool) → Prop) → Prop) (xitoa : Int → (ByteArray → Prop) → Prop) (xrule_pair : (Int) → ((ByteArray) → Prop) → Prop) (x : PL.T (.cons (.int .i64) .nil)) (y : PH.T .nil) (K : PL.T (.cons .str (.cons .bool .nil)) → PH.T .nil → Prop) : Yrule_Clock xrule_within xitoa xrule_pair x.1 (fun u0 u1 => K (u0, (u1, ())) ()) = bodyC (envP Tryd.prog 39 gives ⟨tabC [Jrule_within xrule_within, Jitoa xitoa, Jrule_pair xrule_pair], tabL []⟩) Tryd.f16 (Tryd.f16.body.getD .skip) (PL.enc (.cons (.int .i64) .nil) x) (PH.enc .nil y) (resK (.cons .str (.cons .bool .nil)) .nil K) := by kernel_rfl
theorem Irule_Clock_ok : InstOk Tryd.prog G.1 Irule_Clock := inst_ok (gives := gives) (is := [Irule_within, Iitoa, Irule_pair]) [] (okCons Irule_within_ok (okCons Iitoa_ok (okCons Irule_pair_ok okNil))) 39 follows Tryd.func16 (by kernel_rfl) (fun x => by kernel_rfl) (fun x y K => Erule_Clock Xrule_within Xitoa Xrule_pair x y K)

/- epact/foot.named$1 -/
def Yfoot_named_1 (xfoot_plain : (Int) → ((Bool) → Prop) → Prop) (a0 : Int) (K : (Bool) → Prop) : Prop :=
  xfoot_plain a0 (fun r1 =>
    K !r1)
def Xfoot_named_1 (a0 : Int) (K : (Bool) → Prop) : Prop := Yfoot_named_1 Xfoot_plain a0 K
def Jfoot_named_1 (X : (Int) → ((Bool) → Prop) → Prop) : Inst := ⟨32, (.cons (.int .i32) .nil), .nil, (.cons .bool .nil), .nil, fun x y K => X x.1 (fun u0 => K (u0, ()) ())⟩
def Ifoot_named_1 : Inst := Jfoot_named_1 Xfoot_named_1
theorem Efoot_named_1 (xfoot_plain : (Int) → ((Bool) → Prop) → Prop) (x : PL.T (.cons (.int .i32) .nil)) (y : PH.T .nil) (K : PL.T (.cons .bool .nil) → PH.T .nil → Prop) : Yfoot_named_1 xfoot_plain x.1 (fun u0 => K (u0, ()) ()) = bodyC (envP Tryd.prog 6 gives ⟨tabC [Jfoot_plain xfoot_plain], tabL []⟩) Tryd.f32 (Tryd.f32.body.getD .skip) (PL.enc (.cons (.int .i32) .nil) x) (PH.enc .nil y) (resK (.cons .bool .nil) .nil K) := by kernel_rfl
theorem Ifoot_named_1_ok : InstOk Tryd.prog G.1 Ifoot_named_1 := inst_ok (gives := gives) (is := [Ifoot_plain]) [] (okCons Ifoot_plain_ok okNil) 6 follows Tryd.func32 (by kernel_rfl) (fun x => by kernel_rfl) (fun x y K => Efoot_named_1 Xfoot_plain x y K)

/- strings.indexFunc -/
def Lstrings_indexFunc_2_0 (xfoot_named_1 : (Int) → ((Bool) → Prop) → Prop) (K : (Int) → Prop) : (((Unit × Unit) × Bool × Int × Unit × Unit) × ((ByteArray × Nat) × Unit) → Prop) → ((Unit × Unit) × Bool × Int × Unit × Unit) × ((ByteArray × Nat) × Unit) → Prop := fun k2 x3 =>
  (if Prod.snd (Prod.fst (Prod.snd x3)) < ByteArray.size (Prod.fst (Prod.fst (Prod.snd x3))) then
    xfoot_named_1 (↑(Prod.fst (Go.Utf8.decode (Prod.fst (Prod.fst (Prod.snd x3))) (Prod.snd (Prod.fst (Prod.snd x3))))) : Int) (fun r4 =>
      (if (r4 == Prod.fst (Prod.snd (Prod.fst x3))) = true then
        K (↑(Prod.snd (Prod.fst (Prod.snd x3))) : Int)
      else
        k2 ((((), ()), Prod.fst (Prod.snd (Prod.fst x3)), Prod.fst (Prod.snd (Prod.snd (Prod.fst x3))), (), ()), (Prod.fst (Prod.fst (Prod.snd x3)), Prod.snd (Prod.fst (Prod.snd x3)) + Prod.snd (Go.Utf8.decode (Prod.fst (Prod.fst (Prod.snd x3))) (Prod.snd (Prod.fst (Prod.snd x3))))), ())))
  else
    K (-1 : Int))
def Lstrings_indexFunc_2_0p : Lp := ⟨1094, [.trim 1094], (.cons 1 (.fn (.func 32) .nil .nil) (.cons 2 .bool (.cons 6 (.int .i64) (.cons 10 (.it 224) .nil)))), (.cons 224 .iter .nil), 0⟩
def Ystrings_indexFunc_2 (xfoot_named_1 : (Int) → ((Bool) → Prop) → Prop) (a0 : ByteArray) (a1 : Bool) (K : (Int) → Prop) : Prop :=
  lp (Lstrings_indexFunc_2_0 xfoot_named_1 K) ((((), ()), a1, (0 : Int), (), ()), (a0, (0 : Nat)), ())
def Xstrings_indexFunc_2 (a0 : ByteArray) (a1 : Bool) (K : (Int) → Prop) : Prop := Ystrings_indexFunc_2 Xfoot_named_1 a0 a1 K
def Jstrings_indexFunc_2 (X : (ByteArray) → (Bool) → ((Int) → Prop) → Prop) : Inst := ⟨56, (.cons .str (.cons (.fn (.func 32) .nil .nil) (.cons .bool .nil))), .nil, (.cons (.int .i64) .nil), .nil, fun x y K => X x.1 x.2.2.1 (fun u0 => K (u0, ()) ())⟩
def Istrings_indexFunc_2 : Inst := Jstrings_indexFunc_2 Xstrings_indexFunc_2
theorem Estrings_indexFunc_2 (xfoot_named_1 : (Int) → ((Bool) → Prop) → Prop) (x : PL.T (.cons .str (.cons (.fn (.func 32) .nil .nil) (.cons .bool .nil)))) (y : PH.T .nil) (K : PL.T (.cons (.int .i64) .nil) → PH.T .nil → Prop) : Ystrings_indexFunc_2 xfoot_named_1 x.1 x.2.2.1 (fun u0 => K (u0, ()) ()) = bodyC (envP Tryd.prog 21 gives ⟨tabC [Jfoot_named_1 xfoot_named_1], tabL [Lstrings_indexFunc_2_0p]⟩) Tryd.f56 (Tryd.f56.body.getD .skip) (PL.enc (.cons .str (.cons (.fn (.func 32) .nil .nil) (.cons .bool .nil))) x) (PH.enc .nil y) (resK (.cons (.int .i64) .nil) .nil K) := by kernel_rfl
theorem Istrings_indexFunc_2_ok : InstOk Tryd.prog G.1 Istrings_indexFunc_2 := inst_ok (gives := gives) (is := [Ifoot_named_1]) [Lstrings_indexFunc_2_0p] (okCons Ifoot_named_1_ok okNil) 21 follows Tryd.func56 (by kernel_rfl) (fun x => by kernel_rfl) (fun x y K => Estrings_indexFunc_2 Xfoot_named_1 x y K)

/- strings.IndexFunc -/
def Ystrings_IndexFunc_2 (xstrings_indexFunc_2 : (ByteArray) → (Bool) → ((Int) → Prop) → Prop) (a0 : ByteArray) (K : (Int) → Prop) : Prop :=
  xstrings_indexFunc_2 a0 true (fun r1 =>
    K r1)
def Xstrings_IndexFunc_2 (a0 : ByteArray) (K : (Int) → Prop) : Prop := Ystrings_IndexFunc_2 Xstrings_indexFunc_2 a0 K
def Jstrings_IndexFunc_2 (X : (ByteArray) → ((Int) → Prop) → Prop) : Inst := ⟨42, (.cons .str (.cons (.fn (.func 32) .nil .nil) .nil)), .nil, (.cons (.int .i64) .nil), .nil, fun x y K => X x.1 (fun u0 => K (u0, ()) ())⟩
def Istrings_IndexFunc_2 : Inst := Jstrings_IndexFunc_2 Xstrings_IndexFunc_2
theorem Estrings_IndexFunc_2 (xstrings_indexFunc_2 : (ByteArray) → (Bool) → ((Int) → Prop) → Prop) (x : PL.T (.cons .str (.cons (.fn (.func 32) .nil .nil) .nil))) (y : PH.T .nil) (K : PL.T (.cons (.int .i64) .nil) → PH.T .nil → Prop) : Ystrings_IndexFunc_2 xstrings_indexFunc_2 x.1 (fun u0 => K (u0, ()) ()) = bodyC (envP Tryd.prog 8 gives ⟨tabC [Jstrings_indexFunc_2 xstrings_indexFunc_2], tabL []⟩) Tryd.f42 (Tryd.f42.body.getD .skip) (PL.enc (.cons .str (.cons (.fn (.func 32) .nil .nil) .nil)) x) (PH.enc .nil y) (resK (.cons (.int .i64) .nil) .nil K) := by kernel_rfl
theorem Istrings_IndexFunc_2_ok : InstOk Tryd.prog G.1 Istrings_IndexFunc_2 := inst_ok (gives := gives) (is := [Istrings_indexFunc_2]) [] (okCons Istrings_indexFunc_2_ok okNil) 8 follows Tryd.func42 (by kernel_rfl) (fun x => by kernel_rfl) (fun x y K => Estrings_IndexFunc_2 Xstrings_indexFunc_2 x y K)

/- strings.ContainsFunc -/
def Ystrings_ContainsFunc_1 (xstrings_IndexFunc_2 : (ByteArray) → ((Int) → Prop) → Prop) (a0 : ByteArray) (K : (Bool) → Prop) : Prop :=
  xstrings_IndexFunc_2 a0 (fun r1 =>
    K (decide (r1 ≥ (0 : Int))))
def Xstrings_ContainsFunc_1 (a0 : ByteArray) (K : (Bool) → Prop) : Prop := Ystrings_ContainsFunc_1 Xstrings_IndexFunc_2 a0 K
def Jstrings_ContainsFunc_1 (X : (ByteArray) → ((Bool) → Prop) → Prop) : Inst := ⟨34, (.cons .str (.cons (.fn (.func 32) .nil .nil) .nil)), .nil, (.cons .bool .nil), .nil, fun x y K => X x.1 (fun u0 => K (u0, ()) ())⟩
def Istrings_ContainsFunc_1 : Inst := Jstrings_ContainsFunc_1 Xstrings_ContainsFunc_1
theorem Estrings_ContainsFunc_1 (xstrings_IndexFunc_2 : (ByteArray) → ((Int) → Prop) → Prop) (x : PL.T (.cons .str (.cons (.fn (.func 32) .nil .nil) .nil))) (y : PH.T .nil) (K : PL.T (.cons .bool .nil) → PH.T .nil → Prop) : Ystrings_ContainsFunc_1 xstrings_IndexFunc_2 x.1 (fun u0 => K (u0, ()) ()) = bodyC (envP Tryd.prog 9 gives ⟨tabC [Jstrings_IndexFunc_2 xstrings_IndexFunc_2], tabL []⟩) Tryd.f34 (Tryd.f34.body.getD .skip) (PL.enc (.cons .str (.cons (.fn (.func 32) .nil .nil) .nil)) x) (PH.enc .nil y) (resK (.cons .bool .nil) .nil K) := by kernel_rfl
theorem Istrings_ContainsFunc_1_ok : InstOk Tryd.prog G.1 Istrings_ContainsFunc_1 := inst_ok (gives := gives) (is := [Istrings_IndexFunc_2]) [] (okCons Istrings_IndexFunc_2_ok okNil) 9 follows Tryd.func34 (by kernel_rfl) (fun x => by kernel_rfl) (fun x y K => Estrings_ContainsFunc_1 Xstrings_IndexFunc_2 x y K)

/- epact/foot.named -/
def Yfoot_named (xstrings_ContainsFunc_1 : (ByteArray) → ((Bool) → Prop) → Prop) (a0 : ByteArray) (K : (ByteArray) → Prop) : Prop :=
  xstrings_ContainsFunc_1 a0 (fun r1 =>
    (if r1 = true then
      (if (↑((1 : Nat) + ByteArray.size a0) : Int) > (9223372036854775807 : Int) then
        False
      else
        (if (↑(ByteArray.size (ByteArray.mk #[(60 : UInt8)] ++ a0) + (1 : Nat)) : Int) > (9223372036854775807 : Int) then
          False
        else
          (lt (ByteArray.mk #[(60 : UInt8)] ++ a0 ++ ByteArray.mk #[(62 : UInt8)]) fun v2 =>
          K v2)))
    else
      K a0))
def Xfoot_named (a0 : ByteArray) (K : (ByteArray) → Prop) : Prop := Yfoot_named Xstrings_ContainsFunc_1 a0 K
def Jfoot_named (X : (ByteArray) → ((ByteArray) → Prop) → Prop) : Inst := ⟨17, (.cons .str .nil), .nil, (.cons .str .nil), .nil, fun x y K => X x.1 (fun u0 => K (u0, ()) ())⟩
def Ifoot_named : Inst := Jfoot_named Xfoot_named
theorem Efoot_named (xstrings_ContainsFunc_1 : (ByteArray) → ((Bool) → Prop) → Prop) (x : PL.T (.cons .str .nil)) (y : PH.T .nil) (K : PL.T (.cons .str .nil) → PH.T .nil → Prop) : Yfoot_named xstrings_ContainsFunc_1 x.1 (fun u0 => K (u0, ()) ()) = bodyC (envP Tryd.prog 11 gives ⟨tabC [Jstrings_ContainsFunc_1 xstrings_ContainsFunc_1], tabL []⟩) Tryd.f17 (Tryd.f17.body.getD .skip) (PL.enc (.cons .str .nil) x) (PH.enc .nil y) (resK (.cons .str .nil) .nil K) := by kernel_rfl
theorem Ifoot_named_ok : InstOk Tryd.prog G.1 Ifoot_named := inst_ok (gives := gives) (is := [Istrings_ContainsFunc_1]) [] (okCons Istrings_ContainsFunc_1_ok okNil) 11 follows Tryd.func17 (by kernel_rfl) (fun x => by kernel_rfl) (fun x y K => Efoot_named Xstrings_ContainsFunc_1 x y K)

/- epact/rule.Text -/
def Yrule_Text (xrule_Right : (Int × Int × Int × Int × Int × Unit) → ((Bool) → Prop) → Prop) (xitoa : Int → (ByteArray → Prop) → Prop) (xrule_Clock : (Int) → ((ByteArray) → (Bool) → Prop) → Prop) (a0 : Int × Int × Int × Int × Int × Unit) (K : (ByteArray) → (Bool) → Prop) : Prop :=
  xrule_Right a0 (fun r1 =>
    (if (!r1) = true then
      K (ByteArray.mk #[]) false
    else
      xitoa (Prod.fst (Prod.snd a0)) (fun r2 =>
        (if (Prod.fst a0 == (0 : Int)) = true then
          (if (↑((1 : Nat) + ByteArray.size r2) : Int) > (9223372036854775807 : Int) then
            False
          else
            (if (↑(ByteArray.size (ByteArray.mk #[(77 : UInt8)] ++ r2) + (1 : Nat)) : Int) > (9223372036854775807 : Int) then
              False
            else
              (lt (ByteArray.mk #[(77 : UInt8)] ++ r2 ++ ByteArray.mk #[(46 : UInt8)]) fun v3 =>
              xitoa (Prod.fst (Prod.snd (Prod.snd a0))) (fun r4 =>
                (if (↑(ByteArray.size v3 + ByteArray.size r4) : Int) > (9223372036854775807 : Int) then
                  False
                else
                  (if (↑(ByteArray.size (v3 ++ r4) + (1 : Nat)) : Int) > (9223372036854775807 : Int) then
                    False
                  else
                    (lt (v3 ++ r4 ++ ByteArray.mk #[(46 : UInt8)]) fun v5 =>
                    xitoa (Prod.fst (Prod.snd (Prod.snd (Prod.snd a0)))) (fun r6 =>
                      (if (↑(ByteArray.size v5 + ByteArray.size r6) : Int) > (9223372036854775807 : Int) then
                        False
                      else
                        (if (Prod.fst (Prod.snd (Prod.snd (Prod.snd (Prod.snd a0)))) != (7200 : Int)) = true then
                          xrule_Clock (Prod.fst (Prod.snd (Prod.snd (Prod.snd (Prod.snd a0))))) (fun r7 r8 =>
                            (if (↑((1 : Nat) + ByteArray.size r7) : Int) > (9223372036854775807 : Int) then
                              False
                            else
                              (if (↑(ByteArray.size (v5 ++ r6) + ByteArray.size (ByteArray.mk #[(47 : UInt8)] ++ r7)) : Int) > (9223372036854775807 : Int) then
                                False
                              else
                                (lt (v5 ++ r6 ++ (ByteArray.mk #[(47 : UInt8)] ++ r7)) fun v9 =>
                                K v9 true))))
                        else
                          K (v5 ++ r6) true))))))))))
        else
          (if (Prod.fst a0 == (1 : Int)) = true then
            (if (↑((1 : Nat) + ByteArray.size r2) : Int) > (9223372036854775807 : Int) then
              False
            else
              (if (Prod.fst (Prod.snd (Prod.snd (Prod.snd (Prod.snd a0)))) != (7200 : Int)) = true then
                xrule_Clock (Prod.fst (Prod.snd (Prod.snd (Prod.snd (Prod.snd a0))))) (fun r10 r11 =>
                  (if (↑((1 : Nat) + ByteArray.size r10) : Int) > (9223372036854775807 : Int) then
                    False
                  else
                    (if (↑(ByteArray.size (ByteArray.mk #[(74 : UInt8)] ++ r2) + ByteArray.size (ByteArray.mk #[(47 : UInt8)] ++ r10)) : Int) > (9223372036854775807 : Int) then
                      False
                    else
                      (lt (ByteArray.mk #[(74 : UInt8)] ++ r2 ++ (ByteArray.mk #[(47 : UInt8)] ++ r10)) fun v12 =>
                      K v12 true))))
              else
                K (ByteArray.mk #[(74 : UInt8)] ++ r2) true))
          else
            (if (Prod.fst (Prod.snd (Prod.snd (Prod.snd (Prod.snd a0)))) != (7200 : Int)) = true then
              xrule_Clock (Prod.fst (Prod.snd (Prod.snd (Prod.snd (Prod.snd a0))))) (fun r13 r14 =>
                (if (↑((1 : Nat) + ByteArray.size r13) : Int) > (9223372036854775807 : Int) then
                  False
                else
                  (if (↑(ByteArray.size r2 + ByteArray.size (ByteArray.mk #[(47 : UInt8)] ++ r13)) : Int) > (9223372036854775807 : Int) then
                    False
                  else
                    (lt (r2 ++ (ByteArray.mk #[(47 : UInt8)] ++ r13)) fun v15 =>
                    K v15 true))))
            else
              K r2 true))))))
def Xrule_Text (a0 : Int × Int × Int × Int × Int × Unit) (K : (ByteArray) → (Bool) → Prop) : Prop := Yrule_Text Xrule_Right Xitoa Xrule_Clock a0 K
def Jrule_Text (X : (Int × Int × Int × Int × Int × Unit) → ((ByteArray) → (Bool) → Prop) → Prop) : Inst := ⟨18, (.cons (.agg (.cons (.int .i64) (.cons (.int .i64) (.cons (.int .i64) (.cons (.int .i64) (.cons (.int .i64) .nil)))))) .nil), .nil, (.cons .str (.cons .bool .nil)), .nil, fun x y K => X x.1 (fun u0 u1 => K (u0, (u1, ())) ())⟩
def Irule_Text : Inst := Jrule_Text Xrule_Text
theorem Erule_Text (xrule_Right : (Int × Int × Int × Int × Int × Unit) → ((Bool) → Prop) → Prop) (xitoa : Int → (ByteArray → Prop) → Prop) (xrule_Clock : (Int) → ((ByteArray) → (Bool) → Prop) → Prop) (x : PL.T (.cons (.agg (.cons (.int .i64) (.cons (.int .i64) (.cons (.int .i64) (.cons (.int .i64) (.cons (.int .i64) .nil)))))) .nil)) (y : PH.T .nil) (K : PL.T (.cons .str (.cons .bool .nil)) → PH.T .nil → Prop) : Yrule_Text xrule_Right xitoa xrule_Clock x.1 (fun u0 u1 => K (u0, (u1, ())) ()) = bodyC (envP Tryd.prog 47 gives ⟨tabC [Jrule_Right xrule_Right, Jitoa xitoa, Jrule_Clock xrule_Clock], tabL []⟩) Tryd.f18 (Tryd.f18.body.getD .skip) (PL.enc (.cons (.agg (.cons (.int .i64) (.cons (.int .i64) (.cons (.int .i64) (.cons (.int .i64) (.cons (.int .i64) .nil)))))) .nil) x) (PH.enc .nil y) (resK (.cons .str (.cons .bool .nil)) .nil K) := by kernel_rfl
theorem Irule_Text_ok : InstOk Tryd.prog G.1 Irule_Text := inst_ok (gives := gives) (is := [Irule_Right, Iitoa, Irule_Clock]) [] (okCons Irule_Right_ok (okCons Iitoa_ok (okCons Irule_Clock_ok okNil))) 47 follows Tryd.func18 (by kernel_rfl) (fun x => by kernel_rfl) (fun x y K => Erule_Text Xrule_Right Xitoa Xrule_Clock x y K)

/- epact/foot.Text -/
def Yfoot_Text (xfoot_Right : (Int × Bool × ByteArray × Int × Bool × ByteArray × Bool × Int × Int × Int × Int × Int × Int × Int × Int × Int × Int × Unit) → ((Bool) → Prop) → Prop) (xrule_Clock : (Int) → ((ByteArray) → (Bool) → Prop) → Prop) (xfoot_named : (ByteArray) → ((ByteArray) → Prop) → Prop) (xrule_Text : (Int × Int × Int × Int × Int × Unit) → ((ByteArray) → (Bool) → Prop) → Prop) (a0 : Int × Bool × ByteArray × Int × Bool × ByteArray × Bool × Int × Int × Int × Int × Int × Int × Int × Int × Int × Int × Unit) (K : (ByteArray) → (Bool) → Prop) : Prop :=
  xfoot_Right a0 (fun r1 =>
    (if (!r1) = true then
      K (ByteArray.mk #[]) false
    else
      xrule_Clock (w64 ((0 : Int) - Prod.fst a0)) (fun r2 r3 =>
        xfoot_named (Prod.fst (Prod.snd (Prod.snd a0))) (fun r4 =>
          (if (↑(ByteArray.size r4 + ByteArray.size r2) : Int) > (9223372036854775807 : Int) then
            False
          else
            (if (!Prod.fst (Prod.snd (Prod.snd (Prod.snd (Prod.snd (Prod.snd (Prod.snd a0))))))) = true then
              K (r4 ++ r2) true
            else
              xfoot_named (Prod.fst (Prod.snd (Prod.snd (Prod.snd (Prod.snd (Prod.snd a0)))))) (fun r5 =>
                (if (↑(ByteArray.size (r4 ++ r2) + ByteArray.size r5) : Int) > (9223372036854775807 : Int) then
                  False
                else
                  (if (w64 (Prod.fst (Prod.snd (Prod.snd (Prod.snd a0))) - Prod.fst a0) != (3600 : Int)) = true then
                    xrule_Clock (w64 ((0 : Int) - Prod.fst (Prod.snd (Prod.snd (Prod.snd a0))))) (fun r6 r7 =>
                      (if (↑(ByteArray.size (r4 ++ r2 ++ r5) + ByteArray.size r6) : Int) > (9223372036854775807 : Int) then
                        False
                      else
                        (lt (r4 ++ r2 ++ r5 ++ r6) fun v8 =>
                        xrule_Text (Prod.fst (Prod.snd (Prod.snd (Prod.snd (Prod.snd (Prod.snd (Prod.snd (Prod.snd a0))))))), Prod.fst (Prod.snd (Prod.snd (Prod.snd (Prod.snd (Prod.snd (Prod.snd (Prod.snd (Prod.snd a0)))))))), Prod.fst (Prod.snd (Prod.snd (Prod.snd (Prod.snd (Prod.snd (Prod.snd (Prod.snd (Prod.snd (Prod.snd a0))))))))), Prod.fst (Prod.snd (Prod.snd (Prod.snd (Prod.snd (Prod.snd (Prod.snd (Prod.snd (Prod.snd (Prod.snd (Prod.snd a0)))))))))), Prod.fst (Prod.snd (Prod.snd (Prod.snd (Prod.snd (Prod.snd (Prod.snd (Prod.snd (Prod.snd (Prod.snd (Prod.snd (Prod.snd a0))))))))))), ()) (fun r9 r10 =>
                          xrule_Text (Prod.snd (Prod.snd (Prod.snd (Prod.snd (Prod.snd (Prod.snd (Prod.snd (Prod.snd (Prod.snd (Prod.snd (Prod.snd (Prod.snd a0)))))))))))) (fun r11 r12 =>
                            (if (↑(ByteArray.size v8 + (1 : Nat)) : Int) > (9223372036854775807 : Int) then
                              False
                            else
                              (if (↑(ByteArray.size (v8 ++ ByteArray.mk #[(44 : UInt8)]) + ByteArray.size r9) : Int) > (9223372036854775807 : Int) then
                                False
                              else
                                (lt (v8 ++ ByteArray.mk #[(44 : UInt8)] ++ r9) fun v13 =>
                                (if (↑(ByteArray.size v13 + (1 : Nat)) : Int) > (9223372036854775807 : Int) then
                                  False
                                else
                                  (if (↑(ByteArray.size (v13 ++ ByteArray.mk #[(44 : UInt8)]) + ByteArray.size r11) : Int) > (9223372036854775807 : Int) then
                                    False
                                  else
                                    (lt (v13 ++ ByteArray.mk #[(44 : UInt8)] ++ r11) fun v14 =>
                                    K v14 true)))))))))))
                  else
                    xrule_Text (Prod.fst (Prod.snd (Prod.snd (Prod.snd (Prod.snd (Prod.snd (Prod.snd (Prod.snd a0))))))), Prod.fst (Prod.snd (Prod.snd (Prod.snd (Prod.snd (Prod.snd (Prod.snd (Prod.snd (Prod.snd a0)))))))), Prod.fst (Prod.snd (Prod.snd (Prod.snd (Prod.snd (Prod.snd (Prod.snd (Prod.snd (Prod.snd (Prod.snd a0))))))))), Prod.fst (Prod.snd (Prod.snd (Prod.snd (Prod.snd (Prod.snd (Prod.snd (Prod.snd (Prod.snd (Prod.snd (Prod.snd a0)))))))))), Prod.fst (Prod.snd (Prod.snd (Prod.snd (Prod.snd (Prod.snd (Prod.snd (Prod.snd (Prod.snd (Prod.snd (Prod.snd (Prod.snd a0))))))))))), ()) (fun r15 r16 =>
                      xrule_Text (Prod.snd (Prod.snd (Prod.snd (Prod.snd (Prod.snd (Prod.snd (Prod.snd (Prod.snd (Prod.snd (Prod.snd (Prod.snd (Prod.snd a0)))))))))))) (fun r17 r18 =>
                        (if (↑(ByteArray.size (r4 ++ r2 ++ r5) + (1 : Nat)) : Int) > (9223372036854775807 : Int) then
                          False
                        else
                          (lt (r4 ++ r2 ++ r5 ++ ByteArray.mk #[(44 : UInt8)]) fun v19 =>
                          (if (↑(ByteArray.size v19 + ByteArray.size r15) : Int) > (9223372036854775807 : Int) then
                            False
                          else
                            (if (↑(ByteArray.size (v19 ++ r15) + (1 : Nat)) : Int) > (9223372036854775807 : Int) then
                              False
                            else
                              (lt (v19 ++ r15 ++ ByteArray.mk #[(44 : UInt8)]) fun v20 =>
                              (if (↑(ByteArray.size v20 + ByteArray.size r17) : Int) > (9223372036854775807 : Int) then
                                False
                              else
                                K (v20 ++ r17) true)))))))))))))))))
def Xfoot_Text (a0 : Int × Bool × ByteArray × Int × Bool × ByteArray × Bool × Int × Int × Int × Int × Int × Int × Int × Int × Int × Int × Unit) (K : (ByteArray) → (Bool) → Prop) : Prop := Yfoot_Text Xfoot_Right Xrule_Clock Xfoot_named Xrule_Text a0 K
def Jfoot_Text (X : (Int × Bool × ByteArray × Int × Bool × ByteArray × Bool × Int × Int × Int × Int × Int × Int × Int × Int × Int × Int × Unit) → ((ByteArray) → (Bool) → Prop) → Prop) : Inst := ⟨8, (.cons (.agg (.cons (.int .i64) (.cons .bool (.cons .str (.cons (.int .i64) (.cons .bool (.cons .str (.cons .bool (.cons (.int .i64) (.cons (.int .i64) (.cons (.int .i64) (.cons (.int .i64) (.cons (.int .i64) (.cons (.int .i64) (.cons (.int .i64) (.cons (.int .i64) (.cons (.int .i64) (.cons (.int .i64) .nil)))))))))))))))))) .nil), .nil, (.cons .str (.cons .bool .nil)), .nil, fun x y K => X x.1 (fun u0 u1 => K (u0, (u1, ())) ())⟩
def Ifoot_Text : Inst := Jfoot_Text Xfoot_Text
theorem Efoot_Text (xfoot_Right : (Int × Bool × ByteArray × Int × Bool × ByteArray × Bool × Int × Int × Int × Int × Int × Int × Int × Int × Int × Int × Unit) → ((Bool) → Prop) → Prop) (xrule_Clock : (Int) → ((ByteArray) → (Bool) → Prop) → Prop) (xfoot_named : (ByteArray) → ((ByteArray) → Prop) → Prop) (xrule_Text : (Int × Int × Int × Int × Int × Unit) → ((ByteArray) → (Bool) → Prop) → Prop) (x : PL.T (.cons (.agg (.cons (.int .i64) (.cons .bool (.cons .str (.cons (.int .i64) (.cons .bool (.cons .str (.cons .bool (.cons (.int .i64) (.cons (.int .i64) (.cons (.int .i64) (.cons (.int .i64) (.cons (.int .i64) (.cons (.int .i64) (.cons (.int .i64) (.cons (.int .i64) (.cons (.int .i64) (.cons (.int .i64) .nil)))))))))))))))))) .nil)) (y : PH.T .nil) (K : PL.T (.cons .str (.cons .bool .nil)) → PH.T .nil → Prop) : Yfoot_Text xfoot_Right xrule_Clock xfoot_named xrule_Text x.1 (fun u0 u1 => K (u0, (u1, ())) ()) = bodyC (envP Tryd.prog 76 gives ⟨tabC [Jfoot_Right xfoot_Right, Jrule_Clock xrule_Clock, Jfoot_named xfoot_named, Jrule_Text xrule_Text], tabL []⟩) Tryd.f8 (Tryd.f8.body.getD .skip) (PL.enc (.cons (.agg (.cons (.int .i64) (.cons .bool (.cons .str (.cons (.int .i64) (.cons .bool (.cons .str (.cons .bool (.cons (.int .i64) (.cons (.int .i64) (.cons (.int .i64) (.cons (.int .i64) (.cons (.int .i64) (.cons (.int .i64) (.cons (.int .i64) (.cons (.int .i64) (.cons (.int .i64) (.cons (.int .i64) .nil)))))))))))))))))) .nil) x) (PH.enc .nil y) (resK (.cons .str (.cons .bool .nil)) .nil K) := by kernel_rfl
theorem Ifoot_Text_ok : InstOk Tryd.prog G.1 Ifoot_Text := inst_ok (gives := gives) (is := [Ifoot_Right, Irule_Clock, Ifoot_named, Irule_Text]) [] (okCons Ifoot_Right_ok (okCons Irule_Clock_ok (okCons Ifoot_named_ok (okCons Irule_Text_ok okNil)))) 76 follows Tryd.func8 (by kernel_rfl) (fun x => by kernel_rfl) (fun x y K => Efoot_Text Xfoot_Right Xrule_Clock Xfoot_named Xrule_Text x y K)

/- epact/day.Leap -/
def Yday_Leap (a0 : Int) (K : (Bool) → Prop) : Prop :=
  (if (Int.tmod a0 (4 : Int) == (0 : Int)) = true then
    (if (Int.tmod a0 (100 : Int) != (0 : Int)) = true then
      K true
    else
      K (Int.tmod a0 (400 : Int) == (0 : Int)))
  else
    K false)
def Xday_Leap (a0 : Int) (K : (Bool) → Prop) : Prop := Yday_Leap a0 K
def Jday_Leap (X : (Int) → ((Bool) → Prop) → Prop) : Inst := ⟨40, (.cons (.int .i64) .nil), .nil, (.cons .bool .nil), .nil, fun x y K => X x.1 (fun u0 => K (u0, ()) ())⟩
def Iday_Leap : Inst := Jday_Leap Xday_Leap
theorem Eday_Leap (x : PL.T (.cons (.int .i64) .nil)) (y : PH.T .nil) (K : PL.T (.cons .bool .nil) → PH.T .nil → Prop) : Yday_Leap x.1 (fun u0 => K (u0, ()) ()) = bodyC (envP Tryd.prog 16 gives ⟨tabC [], tabL []⟩) Tryd.f40 (Tryd.f40.body.getD .skip) (PL.enc (.cons (.int .i64) .nil) x) (PH.enc .nil y) (resK (.cons .bool .nil) .nil K) := by kernel_rfl
theorem Iday_Leap_ok : InstOk Tryd.prog G.1 Iday_Leap := inst_ok (gives := gives) (is := []) [] okNil 16 follows Tryd.func40 (by kernel_rfl) (fun x => by kernel_rfl) (fun x y K => Eday_Leap x y K)

/- epact/day.Last -/
def Yday_Last (xday_Leap : (Int) → ((Bool) → Prop) → Prop) (a0 : Int) (a1 : Int) (K : (Int) → (Bool) → Prop) : Prop :=
  (if decide (a0 < (1 : Int)) = true then
    K (0 : Int) false
  else
    (if decide (a0 > (9999 : Int)) = true then
      K (0 : Int) false
    else
      (if decide (a1 < (1 : Int)) = true then
        K (0 : Int) false
      else
        (if decide (a1 > (12 : Int)) = true then
          K (0 : Int) false
        else
          (if (0 : Int) ≤ w64 (a1 - (1 : Int)) ∧ w64 (a1 - (1 : Int)) < (12 : Int) then
            (Eng.asInt IntKind.i64 ([Eng.V.c (Value.int IntKind.i64 (31 : Int)), Eng.V.c (Value.int IntKind.i64 (28 : Int)), Eng.V.c (Value.int IntKind.i64 (31 : Int)), Eng.V.c (Value.int IntKind.i64 (30 : Int)), Eng.V.c (Value.int IntKind.i64 (31 : Int)), Eng.V.c (Value.int IntKind.i64 (30 : Int)), Eng.V.c (Value.int IntKind.i64 (31 : Int)), Eng.V.c (Value.int IntKind.i64 (31 : Int)), Eng.V.c (Value.int IntKind.i64 (30 : Int)), Eng.V.c (Value.int IntKind.i64 (31 : Int)), Eng.V.c (Value.int IntKind.i64 (30 : Int)), Eng.V.c (Value.int IntKind.i64 (31 : Int))][Int.toNat (w64 (a1 - (1 : Int))) * (1 : Nat)]?) False fun n2 =>
              (if (a1 == (2 : Int)) = true then
                xday_Leap a0 (fun r3 =>
                  (if r3 = true then
                    K (w64 (n2 + (1 : Int))) true
                  else
                    K n2 true))
              else
                K n2 true))
          else
            False)))))
def Xday_Last (a0 : Int) (a1 : Int) (K : (Int) → (Bool) → Prop) : Prop := Yday_Last Xday_Leap a0 a1 K
def Jday_Last (X : (Int) → (Int) → ((Int) → (Bool) → Prop) → Prop) : Inst := ⟨28, (.cons (.int .i64) (.cons (.int .i64) .nil)), .nil, (.cons (.int .i64) (.cons .bool .nil)), .nil, fun x y K => X x.1 x.2.1 (fun u0 u1 => K (u0, (u1, ())) ())⟩
def Iday_Last : Inst := Jday_Last Xday_Last
theorem Eday_Last (xday_Leap : (Int) → ((Bool) → Prop) → Prop) (x : PL.T (.cons (.int .i64) (.cons (.int .i64) .nil))) (y : PH.T .nil) (K : PL.T (.cons (.int .i64) (.cons .bool .nil)) → PH.T .nil → Prop) : Yday_Last xday_Leap x.1 x.2.1 (fun u0 u1 => K (u0, (u1, ())) ()) = bodyC (envP Tryd.prog 34 gives ⟨tabC [Jday_Leap xday_Leap], tabL []⟩) Tryd.f28 (Tryd.f28.body.getD .skip) (PL.enc (.cons (.int .i64) (.cons (.int .i64) .nil)) x) (PH.enc .nil y) (resK (.cons (.int .i64) (.cons .bool .nil)) .nil K) := by kernel_rfl
theorem Iday_Last_ok : InstOk Tryd.prog G.1 Iday_Last := inst_ok (gives := gives) (is := [Iday_Leap]) [] (okCons Iday_Leap_ok okNil) 34 follows Tryd.func28 (by kernel_rfl) (fun x => by kernel_rfl) (fun x y K => Eday_Last Xday_Leap x y K)

/- epact/num.Div -/
def Ynum_Div (a0 : Int) (a1 : Int) (K : (Int) → (Int) → (Bool) → Prop) : Prop :=
  (if decide (a1 < (1 : Int)) = true then
    K (0 : Int) (0 : Int) false
  else
    (if a1 = (0 : Int) then
      False
    else
      (if a1 = (0 : Int) then
        False
      else
        (if decide (Int.tmod a0 a1 < (0 : Int)) = true then
          (lt (w64 (w64 (Int.tdiv a0 a1) - (1 : Int))) fun v2 =>
          K v2 (w64 (Int.tmod a0 a1 + a1)) true)
        else
          K (w64 (Int.tdiv a0 a1)) (Int.tmod a0 a1) true))))
def Xnum_Div (a0 : Int) (a1 : Int) (K : (Int) → (Int) → (Bool) → Prop) : Prop := Ynum_Div a0 a1 K
def Jnum_Div (X : (Int) → (Int) → ((Int) → (Int) → (Bool) → Prop) → Prop) : Inst := ⟨12, (.cons (.int .i64) (.cons (.int .i64) .nil)), .nil, (.cons (.int .i64) (.cons (.int .i64) (.cons .bool .nil))), .nil, fun x y K => X x.1 x.2.1 (fun u0 u1 u2 => K (u0, (u1, (u2, ()))) ())⟩
def Inum_Div : Inst := Jnum_Div Xnum_Div
theorem Enum_Div (x : PL.T (.cons (.int .i64) (.cons (.int .i64) .nil))) (y : PH.T .nil) (K : PL.T (.cons (.int .i64) (.cons (.int .i64) (.cons .bool .nil))) → PH.T .nil → Prop) : Ynum_Div x.1 x.2.1 (fun u0 u1 u2 => K (u0, (u1, (u2, ()))) ()) = bodyC (envP Tryd.prog 24 gives ⟨tabC [], tabL []⟩) Tryd.f12 (Tryd.f12.body.getD .skip) (PL.enc (.cons (.int .i64) (.cons (.int .i64) .nil)) x) (PH.enc .nil y) (resK (.cons (.int .i64) (.cons (.int .i64) (.cons .bool .nil))) .nil K) := by kernel_rfl
theorem Inum_Div_ok : InstOk Tryd.prog G.1 Inum_Div := inst_ok (gives := gives) (is := []) [] okNil 24 follows Tryd.func12 (by kernel_rfl) (fun x => by kernel_rfl) (fun x y K => Enum_Div x y K)

/- epact/day.Number -/
def Yday_Number (xday_Last : (Int) → (Int) → ((Int) → (Bool) → Prop) → Prop) (xnum_Div : (Int) → (Int) → ((Int) → (Int) → (Bool) → Prop) → Prop) (a0 : Int) (a1 : Int) (a2 : Int) (K : (Int) → (Bool) → Prop) : Prop :=
  xday_Last a0 a1 (fun r3 r4 =>
    (if (!r4) = true then
      K (0 : Int) false
    else
      (if decide (a2 < (1 : Int)) = true then
        K (0 : Int) false
      else
        (if decide (a2 > r3) = true then
          K (0 : Int) false
        else
          (if decide (a1 < (3 : Int)) = true then
            xnum_Div (w64 (a0 - (1 : Int))) (400 : Int) (fun r5 r6 r7 =>
              (lt (w64 (w64 (a1 + (12 : Int)) - (3 : Int))) fun v8 =>
              (lt (w64 (w64 ((153 : Int) * v8) + (2 : Int))) fun v9 =>
              (lt (w64 (w64 (Int.tdiv v9 (5 : Int)) + a2)) fun v10 =>
              (lt (w64 (w64 ((146097 : Int) * r5) + w64 ((365 : Int) * r6))) fun v11 =>
              (lt (w64 (v11 + w64 (Int.tdiv r6 (4 : Int)))) fun v12 =>
              (lt (w64 (v12 - w64 (Int.tdiv r6 (100 : Int)))) fun v13 =>
              (lt (w64 (v13 + w64 (v10 - (1 : Int)))) fun v14 =>
              K (w64 (v14 - (719468 : Int))) true))))))))
          else
            xnum_Div a0 (400 : Int) (fun r15 r16 r17 =>
              (lt (w64 ((153 : Int) * w64 (a1 - (3 : Int)))) fun v18 =>
              (lt (w64 (Int.tdiv (w64 (v18 + (2 : Int))) (5 : Int))) fun v19 =>
              (lt (w64 (w64 (v19 + a2) - (1 : Int))) fun v20 =>
              (lt (w64 (w64 ((146097 : Int) * r15) + w64 ((365 : Int) * r16))) fun v21 =>
              (lt (w64 (v21 + w64 (Int.tdiv r16 (4 : Int)))) fun v22 =>
              (lt (w64 (v22 - w64 (Int.tdiv r16 (100 : Int)))) fun v23 =>
              (lt (w64 (w64 (v23 + v20) - (719468 : Int))) fun v24 =>
              K v24 true)))))))))))))
def Xday_Number (a0 : Int) (a1 : Int) (a2 : Int) (K : (Int) → (Bool) → Prop) : Prop := Yday_Number Xday_Last Xnum_Div a0 a1 a2 K
def Jday_Number (X : (Int) → (Int) → (Int) → ((Int) → (Bool) → Prop) → Prop) : Inst := ⟨15, (.cons (.int .i64) (.cons (.int .i64) (.cons (.int .i64) .nil))), .nil, (.cons (.int .i64) (.cons .bool .nil)), .nil, fun x y K => X x.1 x.2.1 x.2.2.1 (fun u0 u1 => K (u0, (u1, ())) ())⟩
def Iday_Number : Inst := Jday_Number Xday_Number
theorem Eday_Number (xday_Last : (Int) → (Int) → ((Int) → (Bool) → Prop) → Prop) (xnum_Div : (Int) → (Int) → ((Int) → (Int) → (Bool) → Prop) → Prop) (x : PL.T (.cons (.int .i64) (.cons (.int .i64) (.cons (.int .i64) .nil)))) (y : PH.T .nil) (K : PL.T (.cons (.int .i64) (.cons .bool .nil)) → PH.T .nil → Prop) : Yday_Number xday_Last xnum_Div x.1 x.2.1 x.2.2.1 (fun u0 u1 => K (u0, (u1, ())) ()) = bodyC (envP Tryd.prog 65 gives ⟨tabC [Jday_Last xday_Last, Jnum_Div xnum_Div], tabL []⟩) Tryd.f15 (Tryd.f15.body.getD .skip) (PL.enc (.cons (.int .i64) (.cons (.int .i64) (.cons (.int .i64) .nil))) x) (PH.enc .nil y) (resK (.cons (.int .i64) (.cons .bool .nil)) .nil K) := by kernel_rfl
theorem Iday_Number_ok : InstOk Tryd.prog G.1 Iday_Number := inst_ok (gives := gives) (is := [Iday_Last, Inum_Div]) [] (okCons Iday_Last_ok (okCons Inum_Div_ok okNil)) 65 follows Tryd.func15 (by kernel_rfl) (fun x => by kernel_rfl) (fun x y K => Eday_Number Xday_Last Xnum_Div x y K)

/- epact/day.Week -/
def Yday_Week (xnum_Div : (Int) → (Int) → ((Int) → (Int) → (Bool) → Prop) → Prop) (a0 : Int) (K : (Int) → Prop) : Prop :=
  xnum_Div (w64 (Int.tmod a0 (7 : Int) + (4 : Int))) (7 : Int) (fun r1 r2 r3 =>
    K r2)
def Xday_Week (a0 : Int) (K : (Int) → Prop) : Prop := Yday_Week Xnum_Div a0 K
def Jday_Week (X : (Int) → ((Int) → Prop) → Prop) : Inst := ⟨54, (.cons (.int .i64) .nil), .nil, (.cons (.int .i64) .nil), .nil, fun x y K => X x.1 (fun u0 => K (u0, ()) ())⟩
def Iday_Week : Inst := Jday_Week Xday_Week
theorem Eday_Week (xnum_Div : (Int) → (Int) → ((Int) → (Int) → (Bool) → Prop) → Prop) (x : PL.T (.cons (.int .i64) .nil)) (y : PH.T .nil) (K : PL.T (.cons (.int .i64) .nil) → PH.T .nil → Prop) : Yday_Week xnum_Div x.1 (fun u0 => K (u0, ()) ()) = bodyC (envP Tryd.prog 15 gives ⟨tabC [Jnum_Div xnum_Div], tabL []⟩) Tryd.f54 (Tryd.f54.body.getD .skip) (PL.enc (.cons (.int .i64) .nil) x) (PH.enc .nil y) (resK (.cons (.int .i64) .nil) .nil K) := by kernel_rfl
theorem Iday_Week_ok : InstOk Tryd.prog G.1 Iday_Week := inst_ok (gives := gives) (is := [Inum_Div]) [] (okCons Inum_Div_ok okNil) 15 follows Tryd.func54 (by kernel_rfl) (fun x => by kernel_rfl) (fun x y K => Eday_Week Xnum_Div x y K)

/- epact/rule.Day -/
def Yrule_Day (xday_Number : (Int) → (Int) → (Int) → ((Int) → (Bool) → Prop) → Prop) (xrule_Right : (Int × Int × Int × Int × Int × Unit) → ((Bool) → Prop) → Prop) (xday_Leap : (Int) → ((Bool) → Prop) → Prop) (xday_Last : (Int) → (Int) → ((Int) → (Bool) → Prop) → Prop) (xday_Week : (Int) → ((Int) → Prop) → Prop) (a0 : Int × Int × Int × Int × Int × Unit) (a1 : Int) (K : (Int) → (Bool) → Prop) : Prop :=
  xday_Number a1 (1 : Int) (1 : Int) (fun r2 r3 =>
    (if (!r3) = true then
      K (0 : Int) false
    else
      xrule_Right a0 (fun r4 =>
        (if (!r4) = true then
          K (0 : Int) false
        else
          (if (Prod.fst a0 == (2 : Int)) = true then
            K (w64 (r2 + Prod.fst (Prod.snd a0))) true
          else
            (if (Prod.fst a0 == (1 : Int)) = true then
              (if decide (Prod.fst (Prod.snd a0) ≤ (59 : Int)) = true then
                (lt (w64 (w64 (r2 - (1 : Int)) + Prod.fst (Prod.snd a0))) fun v5 =>
                K v5 true)
              else
                xday_Leap a1 (fun r6 =>
                  (if (!r6) = true then
                    (lt (w64 (w64 (r2 - (1 : Int)) + Prod.fst (Prod.snd a0))) fun v7 =>
                    K v7 true)
                  else
                    K (w64 (r2 + Prod.fst (Prod.snd a0))) true)))
            else
              xday_Number a1 (Prod.fst (Prod.snd a0)) (1 : Int) (fun r8 r9 =>
                xday_Last a1 (Prod.fst (Prod.snd a0)) (fun r10 r11 =>
                  (lt (w64 ((7 : Int) * w64 (Prod.fst (Prod.snd (Prod.snd a0)) - (1 : Int)))) fun v12 =>
                  xday_Week r8 (fun r13 =>
                    (lt (w64 (w64 (Prod.fst (Prod.snd (Prod.snd (Prod.snd a0))) - r13) + (7 : Int))) fun v14 =>
                    (lt (decide (w64 (Int.tmod v14 (7 : Int) + v12) ≥ r10)) fun v15 =>
                    (if v15 = true then
                      (lt (w64 (w64 (Int.tmod v14 (7 : Int) + v12) - (7 : Int))) fun v16 =>
                      K (w64 (r8 + v16)) true)
                    else
                      (lt (w64 (r8 + w64 (Int.tmod v14 (7 : Int) + v12))) fun v17 =>
                      K v17 true))))))))))))))
def Xrule_Day (a0 : Int × Int × Int × Int × Int × Unit) (a1 : Int) (K : (Int) → (Bool) → Prop) : Prop := Yrule_Day Xday_Number Xrule_Right Xday_Leap Xday_Last Xday_Week a0 a1 K
def Jrule_Day (X : (Int × Int × Int × Int × Int × Unit) → (Int) → ((Int) → (Bool) → Prop) → Prop) : Inst := ⟨39, (.cons (.agg (.cons (.int .i64) (.cons (.int .i64) (.cons (.int .i64) (.cons (.int .i64) (.cons (.int .i64) .nil)))))) (.cons (.int .i64) .nil)), .nil, (.cons (.int .i64) (.cons .bool .nil)), .nil, fun x y K => X x.1 x.2.1 (fun u0 u1 => K (u0, (u1, ())) ())⟩
def Irule_Day : Inst := Jrule_Day Xrule_Day
theorem Erule_Day (xday_Number : (Int) → (Int) → (Int) → ((Int) → (Bool) → Prop) → Prop) (xrule_Right : (Int × Int × Int × Int × Int × Unit) → ((Bool) → Prop) → Prop) (xday_Leap : (Int) → ((Bool) → Prop) → Prop) (xday_Last : (Int) → (Int) → ((Int) → (Bool) → Prop) → Prop) (xday_Week : (Int) → ((Int) → Prop) → Prop) (x : PL.T (.cons (.agg (.cons (.int .i64) (.cons (.int .i64) (.cons (.int .i64) (.cons (.int .i64) (.cons (.int .i64) .nil)))))) (.cons (.int .i64) .nil))) (y : PH.T .nil) (K : PL.T (.cons (.int .i64) (.cons .bool .nil)) → PH.T .nil → Prop) : Yrule_Day xday_Number xrule_Right xday_Leap xday_Last xday_Week x.1 x.2.1 (fun u0 u1 => K (u0, (u1, ())) ()) = bodyC (envP Tryd.prog 83 gives ⟨tabC [Jday_Number xday_Number, Jrule_Right xrule_Right, Jday_Leap xday_Leap, Jday_Last xday_Last, Jday_Week xday_Week], tabL []⟩) Tryd.f39 (Tryd.f39.body.getD .skip) (PL.enc (.cons (.agg (.cons (.int .i64) (.cons (.int .i64) (.cons (.int .i64) (.cons (.int .i64) (.cons (.int .i64) .nil)))))) (.cons (.int .i64) .nil)) x) (PH.enc .nil y) (resK (.cons (.int .i64) (.cons .bool .nil)) .nil K) := by kernel_rfl
theorem Irule_Day_ok : InstOk Tryd.prog G.1 Irule_Day := inst_ok (gives := gives) (is := [Iday_Number, Irule_Right, Iday_Leap, Iday_Last, Iday_Week]) [] (okCons Iday_Number_ok (okCons Irule_Right_ok (okCons Iday_Leap_ok (okCons Iday_Last_ok (okCons Iday_Week_ok okNil))))) 83 follows Tryd.func39 (by kernel_rfl) (fun x => by kernel_rfl) (fun x y K => Erule_Day Xday_Number Xrule_Right Xday_Leap Xday_Last Xday_Week x y K)

/- epact/rule.At -/
def Yrule_At (xrule_Day : (Int × Int × Int × Int × Int × Unit) → (Int) → ((Int) → (Bool) → Prop) → Prop) (a0 : Int × Int × Int × Int × Int × Unit) (a1 : Int) (K : (Int) → (Bool) → Prop) : Prop :=
  xrule_Day a0 a1 (fun r2 r3 =>
    (if (!r3) = true then
      K (0 : Int) false
    else
      (lt (w64 (w64 (r2 * (86400 : Int)) + Prod.fst (Prod.snd (Prod.snd (Prod.snd (Prod.snd a0)))))) fun v4 =>
      K v4 true)))
def Xrule_At (a0 : Int × Int × Int × Int × Int × Unit) (a1 : Int) (K : (Int) → (Bool) → Prop) : Prop := Yrule_At Xrule_Day a0 a1 K
def Jrule_At (X : (Int × Int × Int × Int × Int × Unit) → (Int) → ((Int) → (Bool) → Prop) → Prop) : Inst := ⟨27, (.cons (.agg (.cons (.int .i64) (.cons (.int .i64) (.cons (.int .i64) (.cons (.int .i64) (.cons (.int .i64) .nil)))))) (.cons (.int .i64) .nil)), .nil, (.cons (.int .i64) (.cons .bool .nil)), .nil, fun x y K => X x.1 x.2.1 (fun u0 u1 => K (u0, (u1, ())) ())⟩
def Irule_At : Inst := Jrule_At Xrule_At
theorem Erule_At (xrule_Day : (Int × Int × Int × Int × Int × Unit) → (Int) → ((Int) → (Bool) → Prop) → Prop) (x : PL.T (.cons (.agg (.cons (.int .i64) (.cons (.int .i64) (.cons (.int .i64) (.cons (.int .i64) (.cons (.int .i64) .nil)))))) (.cons (.int .i64) .nil))) (y : PH.T .nil) (K : PL.T (.cons (.int .i64) (.cons .bool .nil)) → PH.T .nil → Prop) : Yrule_At xrule_Day x.1 x.2.1 (fun u0 u1 => K (u0, (u1, ())) ()) = bodyC (envP Tryd.prog 21 gives ⟨tabC [Jrule_Day xrule_Day], tabL []⟩) Tryd.f27 (Tryd.f27.body.getD .skip) (PL.enc (.cons (.agg (.cons (.int .i64) (.cons (.int .i64) (.cons (.int .i64) (.cons (.int .i64) (.cons (.int .i64) .nil)))))) (.cons (.int .i64) .nil)) x) (PH.enc .nil y) (resK (.cons (.int .i64) (.cons .bool .nil)) .nil K) := by kernel_rfl
theorem Irule_At_ok : InstOk Tryd.prog G.1 Irule_At := inst_ok (gives := gives) (is := [Irule_Day]) [] (okCons Irule_Day_ok okNil) 21 follows Tryd.func27 (by kernel_rfl) (fun x => by kernel_rfl) (fun x y K => Erule_At Xrule_Day x y K)

/- epact/foot.Span -/
def Yfoot_Span (xfoot_Right : (Int × Bool × ByteArray × Int × Bool × ByteArray × Bool × Int × Int × Int × Int × Int × Int × Int × Int × Int × Int × Unit) → ((Bool) → Prop) → Prop) (xrule_At : (Int × Int × Int × Int × Int × Unit) → (Int) → ((Int) → (Bool) → Prop) → Prop) (a0 : Int × Bool × ByteArray × Int × Bool × ByteArray × Bool × Int × Int × Int × Int × Int × Int × Int × Int × Int × Int × Unit) (a1 : Int) (K : (Int) → (Int) → (Bool) → Prop) : Prop :=
  (if (!Prod.fst (Prod.snd (Prod.snd (Prod.snd (Prod.snd (Prod.snd (Prod.snd a0))))))) = true then
    K (0 : Int) (0 : Int) false
  else
    xfoot_Right a0 (fun r2 =>
      (if (!r2) = true then
        K (0 : Int) (0 : Int) false
      else
        xrule_At (Prod.fst (Prod.snd (Prod.snd (Prod.snd (Prod.snd (Prod.snd (Prod.snd (Prod.snd a0))))))), Prod.fst (Prod.snd (Prod.snd (Prod.snd (Prod.snd (Prod.snd (Prod.snd (Prod.snd (Prod.snd a0)))))))), Prod.fst (Prod.snd (Prod.snd (Prod.snd (Prod.snd (Prod.snd (Prod.snd (Prod.snd (Prod.snd (Prod.snd a0))))))))), Prod.fst (Prod.snd (Prod.snd (Prod.snd (Prod.snd (Prod.snd (Prod.snd (Prod.snd (Prod.snd (Prod.snd (Prod.snd a0)))))))))), Prod.fst (Prod.snd (Prod.snd (Prod.snd (Prod.snd (Prod.snd (Prod.snd (Prod.snd (Prod.snd (Prod.snd (Prod.snd (Prod.snd a0))))))))))), ()) a1 (fun r3 r4 =>
          (if (!r4) = true then
            K (0 : Int) (0 : Int) false
          else
            xrule_At (Prod.snd (Prod.snd (Prod.snd (Prod.snd (Prod.snd (Prod.snd (Prod.snd (Prod.snd (Prod.snd (Prod.snd (Prod.snd (Prod.snd a0)))))))))))) a1 (fun r5 r6 =>
              K (w64 (r3 - Prod.fst a0)) (w64 (r5 - Prod.fst (Prod.snd (Prod.snd (Prod.snd a0))))) true))))))
def Xfoot_Span (a0 : Int × Bool × ByteArray × Int × Bool × ByteArray × Bool × Int × Int × Int × Int × Int × Int × Int × Int × Int × Int × Unit) (a1 : Int) (K : (Int) → (Int) → (Bool) → Prop) : Prop := Yfoot_Span Xfoot_Right Xrule_At a0 a1 K
def Jfoot_Span (X : (Int × Bool × ByteArray × Int × Bool × ByteArray × Bool × Int × Int × Int × Int × Int × Int × Int × Int × Int × Int × Unit) → (Int) → ((Int) → (Int) → (Bool) → Prop) → Prop) : Inst := ⟨14, (.cons (.agg (.cons (.int .i64) (.cons .bool (.cons .str (.cons (.int .i64) (.cons .bool (.cons .str (.cons .bool (.cons (.int .i64) (.cons (.int .i64) (.cons (.int .i64) (.cons (.int .i64) (.cons (.int .i64) (.cons (.int .i64) (.cons (.int .i64) (.cons (.int .i64) (.cons (.int .i64) (.cons (.int .i64) .nil)))))))))))))))))) (.cons (.int .i64) .nil)), .nil, (.cons (.int .i64) (.cons (.int .i64) (.cons .bool .nil))), .nil, fun x y K => X x.1 x.2.1 (fun u0 u1 u2 => K (u0, (u1, (u2, ()))) ())⟩
def Ifoot_Span : Inst := Jfoot_Span Xfoot_Span
theorem Efoot_Span (xfoot_Right : (Int × Bool × ByteArray × Int × Bool × ByteArray × Bool × Int × Int × Int × Int × Int × Int × Int × Int × Int × Int × Unit) → ((Bool) → Prop) → Prop) (xrule_At : (Int × Int × Int × Int × Int × Unit) → (Int) → ((Int) → (Bool) → Prop) → Prop) (x : PL.T (.cons (.agg (.cons (.int .i64) (.cons .bool (.cons .str (.cons (.int .i64) (.cons .bool (.cons .str (.cons .bool (.cons (.int .i64) (.cons (.int .i64) (.cons (.int .i64) (.cons (.int .i64) (.cons (.int .i64) (.cons (.int .i64) (.cons (.int .i64) (.cons (.int .i64) (.cons (.int .i64) (.cons (.int .i64) .nil)))))))))))))))))) (.cons (.int .i64) .nil))) (y : PH.T .nil) (K : PL.T (.cons (.int .i64) (.cons (.int .i64) (.cons .bool .nil))) → PH.T .nil → Prop) : Yfoot_Span xfoot_Right xrule_At x.1 x.2.1 (fun u0 u1 u2 => K (u0, (u1, (u2, ()))) ()) = bodyC (envP Tryd.prog 41 gives ⟨tabC [Jfoot_Right xfoot_Right, Jrule_At xrule_At], tabL []⟩) Tryd.f14 (Tryd.f14.body.getD .skip) (PL.enc (.cons (.agg (.cons (.int .i64) (.cons .bool (.cons .str (.cons (.int .i64) (.cons .bool (.cons .str (.cons .bool (.cons (.int .i64) (.cons (.int .i64) (.cons (.int .i64) (.cons (.int .i64) (.cons (.int .i64) (.cons (.int .i64) (.cons (.int .i64) (.cons (.int .i64) (.cons (.int .i64) (.cons (.int .i64) .nil)))))))))))))))))) (.cons (.int .i64) .nil)) x) (PH.enc .nil y) (resK (.cons (.int .i64) (.cons (.int .i64) (.cons .bool .nil))) .nil K) := by kernel_rfl
theorem Ifoot_Span_ok : InstOk Tryd.prog G.1 Ifoot_Span := inst_ok (gives := gives) (is := [Ifoot_Right, Irule_At]) [] (okCons Ifoot_Right_ok (okCons Irule_At_ok okNil)) 41 follows Tryd.func14 (by kernel_rfl) (fun x => by kernel_rfl) (fun x y K => Efoot_Span Xfoot_Right Xrule_At x y K)

/- epact/num.Add -/
def Ynum_Add (a0 : Int) (a1 : Int) (K : (Int) → (Bool) → Prop) : Prop :=
  (lt (!decide (w64 (a0 + a1) > a0) == decide (a1 > (0 : Int))) fun v2 =>
  (if v2 = true then
    (if (a1 != (0 : Int)) = true then
      K (0 : Int) false
    else
      K (w64 (a0 + a1)) true)
  else
    K (w64 (a0 + a1)) true))
def Xnum_Add (a0 : Int) (a1 : Int) (K : (Int) → (Bool) → Prop) : Prop := Ynum_Add a0 a1 K
def Jnum_Add (X : (Int) → (Int) → ((Int) → (Bool) → Prop) → Prop) : Inst := ⟨25, (.cons (.int .i64) (.cons (.int .i64) .nil)), .nil, (.cons (.int .i64) (.cons .bool .nil)), .nil, fun x y K => X x.1 x.2.1 (fun u0 u1 => K (u0, (u1, ())) ())⟩
def Inum_Add : Inst := Jnum_Add Xnum_Add
theorem Enum_Add (x : PL.T (.cons (.int .i64) (.cons (.int .i64) .nil))) (y : PH.T .nil) (K : PL.T (.cons (.int .i64) (.cons .bool .nil)) → PH.T .nil → Prop) : Ynum_Add x.1 x.2.1 (fun u0 u1 => K (u0, (u1, ())) ()) = bodyC (envP Tryd.prog 21 gives ⟨tabC [], tabL []⟩) Tryd.f25 (Tryd.f25.body.getD .skip) (PL.enc (.cons (.int .i64) (.cons (.int .i64) .nil)) x) (PH.enc .nil y) (resK (.cons (.int .i64) (.cons .bool .nil)) .nil K) := by kernel_rfl
theorem Inum_Add_ok : InstOk Tryd.prog G.1 Inum_Add := inst_ok (gives := gives) (is := []) [] okNil 21 follows Tryd.func25 (by kernel_rfl) (fun x => by kernel_rfl) (fun x y K => Enum_Add x y K)

/- epact/day.Date -/
def Yday_Date (xnum_Div : (Int) → (Int) → ((Int) → (Int) → (Bool) → Prop) → Prop) (a0 : Int) (K : (Int) → (Int) → (Int) → (Bool) → Prop) : Prop :=
  (if decide (a0 < (-719162 : Int)) = true then
    K (0 : Int) (0 : Int) (0 : Int) false
  else
    (if decide (a0 > (2932896 : Int)) = true then
      K (0 : Int) (0 : Int) (0 : Int) false
    else
      xnum_Div (w64 (a0 + (719468 : Int))) (146097 : Int) (fun r1 r2 r3 =>
        (lt (w64 (r2 - w64 (Int.tdiv r2 (1460 : Int)))) fun v4 =>
        (lt (w64 (v4 + w64 (Int.tdiv r2 (36524 : Int)))) fun v5 =>
        (lt (w64 (v5 - w64 (Int.tdiv r2 (146096 : Int)))) fun v6 =>
        (lt (w64 ((365 : Int) * w64 (Int.tdiv v6 (365 : Int)))) fun v7 =>
        (lt (w64 (Int.tdiv (w64 (Int.tdiv v6 (365 : Int))) (4 : Int))) fun v8 =>
        (lt (w64 (Int.tdiv (w64 (Int.tdiv v6 (365 : Int))) (100 : Int))) fun v9 =>
        (lt (w64 (w64 (v7 + v8) - v9)) fun v10 =>
        (lt (w64 ((5 : Int) * w64 (r2 - v10))) fun v11 =>
        (lt (w64 (Int.tdiv (w64 (v11 + (2 : Int))) (153 : Int))) fun v12 =>
        (lt (w64 (w64 ((153 : Int) * v12) + (2 : Int))) fun v13 =>
        (lt (w64 (w64 (r2 - v10) - w64 (Int.tdiv v13 (5 : Int)))) fun v14 =>
        (if decide (w64 (v12 + (3 : Int)) > (12 : Int)) = true then
          (lt (w64 (w64 (v12 + (3 : Int)) - (12 : Int))) fun v15 =>
          (lt (w64 (w64 (Int.tdiv v6 (365 : Int)) + (1 : Int))) fun v16 =>
          (lt (w64 (w64 ((400 : Int) * r1) + v16)) fun v17 =>
          K v17 v15 (w64 (v14 + (1 : Int))) true)))
        else
          (lt (w64 (w64 ((400 : Int) * r1) + w64 (Int.tdiv v6 (365 : Int)))) fun v18 =>
          K v18 (w64 (v12 + (3 : Int))) (w64 (v14 + (1 : Int))) true))))))))))))))))
def Xday_Date (a0 : Int) (K : (Int) → (Int) → (Int) → (Bool) → Prop) : Prop := Yday_Date Xnum_Div a0 K
def Jday_Date (X : (Int) → ((Int) → (Int) → (Int) → (Bool) → Prop) → Prop) : Inst := ⟨13, (.cons (.int .i64) .nil), .nil, (.cons (.int .i64) (.cons (.int .i64) (.cons (.int .i64) (.cons .bool .nil)))), .nil, fun x y K => X x.1 (fun u0 u1 u2 u3 => K (u0, (u1, (u2, (u3, ())))) ())⟩
def Iday_Date : Inst := Jday_Date Xday_Date
theorem Eday_Date (xnum_Div : (Int) → (Int) → ((Int) → (Int) → (Bool) → Prop) → Prop) (x : PL.T (.cons (.int .i64) .nil)) (y : PH.T .nil) (K : PL.T (.cons (.int .i64) (.cons (.int .i64) (.cons (.int .i64) (.cons .bool .nil)))) → PH.T .nil → Prop) : Yday_Date xnum_Div x.1 (fun u0 u1 u2 u3 => K (u0, (u1, (u2, (u3, ())))) ()) = bodyC (envP Tryd.prog 69 gives ⟨tabC [Jnum_Div xnum_Div], tabL []⟩) Tryd.f13 (Tryd.f13.body.getD .skip) (PL.enc (.cons (.int .i64) .nil) x) (PH.enc .nil y) (resK (.cons (.int .i64) (.cons (.int .i64) (.cons (.int .i64) (.cons .bool .nil)))) .nil K) := by kernel_rfl
theorem Iday_Date_ok : InstOk Tryd.prog G.1 Iday_Date := inst_ok (gives := gives) (is := [Inum_Div]) [] (okCons Inum_Div_ok okNil) 69 follows Tryd.func13 (by kernel_rfl) (fun x => by kernel_rfl) (fun x y K => Eday_Date Xnum_Div x y K)

/- epact/foot.year -/
def Yfoot_year (xnum_Div : (Int) → (Int) → ((Int) → (Int) → (Bool) → Prop) → Prop) (xday_Date : (Int) → ((Int) → (Int) → (Int) → (Bool) → Prop) → Prop) (a0 : Int) (K : (Int) → (Bool) → Prop) : Prop :=
  xnum_Div a0 (86400 : Int) (fun r1 r2 r3 =>
    xday_Date r1 (fun r4 r5 r6 r7 =>
      K r4 r7))
def Xfoot_year (a0 : Int) (K : (Int) → (Bool) → Prop) : Prop := Yfoot_year Xnum_Div Xday_Date a0 K
def Jfoot_year (X : (Int) → ((Int) → (Bool) → Prop) → Prop) : Inst := ⟨26, (.cons (.int .i64) .nil), .nil, (.cons (.int .i64) (.cons .bool .nil)), .nil, fun x y K => X x.1 (fun u0 u1 => K (u0, (u1, ())) ())⟩
def Ifoot_year : Inst := Jfoot_year Xfoot_year
theorem Efoot_year (xnum_Div : (Int) → (Int) → ((Int) → (Int) → (Bool) → Prop) → Prop) (xday_Date : (Int) → ((Int) → (Int) → (Int) → (Bool) → Prop) → Prop) (x : PL.T (.cons (.int .i64) .nil)) (y : PH.T .nil) (K : PL.T (.cons (.int .i64) (.cons .bool .nil)) → PH.T .nil → Prop) : Yfoot_year xnum_Div xday_Date x.1 (fun u0 u1 => K (u0, (u1, ())) ()) = bodyC (envP Tryd.prog 26 gives ⟨tabC [Jnum_Div xnum_Div, Jday_Date xday_Date], tabL []⟩) Tryd.f26 (Tryd.f26.body.getD .skip) (PL.enc (.cons (.int .i64) .nil) x) (PH.enc .nil y) (resK (.cons (.int .i64) (.cons .bool .nil)) .nil K) := by kernel_rfl
theorem Ifoot_year_ok : InstOk Tryd.prog G.1 Ifoot_year := inst_ok (gives := gives) (is := [Inum_Div, Iday_Date]) [] (okCons Inum_Div_ok (okCons Iday_Date_ok okNil)) 26 follows Tryd.func26 (by kernel_rfl) (fun x => by kernel_rfl) (fun x y K => Efoot_year Xnum_Div Xday_Date x y K)

/- epact/foot.Lookup -/
def Yfoot_Lookup (xnum_Add : (Int) → (Int) → ((Int) → (Bool) → Prop) → Prop) (xfoot_year : (Int) → ((Int) → (Bool) → Prop) → Prop) (xfoot_Span : (Int × Bool × ByteArray × Int × Bool × ByteArray × Bool × Int × Int × Int × Int × Int × Int × Int × Int × Int × Int × Unit) → (Int) → ((Int) → (Int) → (Bool) → Prop) → Prop) (a0 : Int × Bool × ByteArray × Int × Bool × ByteArray × Bool × Int × Int × Int × Int × Int × Int × Int × Int × Int × Int × Unit) (a1 : Int) (K : (Int × Bool × ByteArray × Unit) → Prop) : Prop :=
  xnum_Add a1 (Prod.fst a0) (fun r2 r3 =>
    xfoot_year r2 (fun r4 r5 =>
      xfoot_Span a0 r4 (fun r6 r7 r8 =>
        (if (!r3) = true then
          K (Prod.fst a0, Prod.fst (Prod.snd a0), Prod.fst (Prod.snd (Prod.snd a0)), ())
        else
          (if (!r5) = true then
            K (Prod.fst a0, Prod.fst (Prod.snd a0), Prod.fst (Prod.snd (Prod.snd a0)), ())
          else
            (if (!r8) = true then
              K (Prod.fst a0, Prod.fst (Prod.snd a0), Prod.fst (Prod.snd (Prod.snd a0)), ())
            else
              (if decide (a1 ≥ r6) = true then
                (if decide (a1 < r7) = true then
                  K (Prod.fst (Prod.snd (Prod.snd (Prod.snd a0))), Prod.fst (Prod.snd (Prod.snd (Prod.snd (Prod.snd a0)))), Prod.fst (Prod.snd (Prod.snd (Prod.snd (Prod.snd (Prod.snd a0))))), ())
                else
                  (if decide (r6 ≥ r7) = true then
                    (if decide (a1 ≥ r6) = true then
                      K (Prod.fst (Prod.snd (Prod.snd (Prod.snd a0))), Prod.fst (Prod.snd (Prod.snd (Prod.snd (Prod.snd a0)))), Prod.fst (Prod.snd (Prod.snd (Prod.snd (Prod.snd (Prod.snd a0))))), ())
                    else
                      (if decide (a1 < r7) = true then
                        K (Prod.fst (Prod.snd (Prod.snd (Prod.snd a0))), Prod.fst (Prod.snd (Prod.snd (Prod.snd (Prod.snd a0)))), Prod.fst (Prod.snd (Prod.snd (Prod.snd (Prod.snd (Prod.snd a0))))), ())
                      else
                        K (Prod.fst a0, Prod.fst (Prod.snd a0), Prod.fst (Prod.snd (Prod.snd a0)), ())))
                  else
                    K (Prod.fst a0, Prod.fst (Prod.snd a0), Prod.fst (Prod.snd (Prod.snd a0)), ())))
              else
                (if decide (r6 ≥ r7) = true then
                  (if decide (a1 ≥ r6) = true then
                    K (Prod.fst (Prod.snd (Prod.snd (Prod.snd a0))), Prod.fst (Prod.snd (Prod.snd (Prod.snd (Prod.snd a0)))), Prod.fst (Prod.snd (Prod.snd (Prod.snd (Prod.snd (Prod.snd a0))))), ())
                  else
                    (if decide (a1 < r7) = true then
                      K (Prod.fst (Prod.snd (Prod.snd (Prod.snd a0))), Prod.fst (Prod.snd (Prod.snd (Prod.snd (Prod.snd a0)))), Prod.fst (Prod.snd (Prod.snd (Prod.snd (Prod.snd (Prod.snd a0))))), ())
                    else
                      K (Prod.fst a0, Prod.fst (Prod.snd a0), Prod.fst (Prod.snd (Prod.snd a0)), ())))
                else
                  K (Prod.fst a0, Prod.fst (Prod.snd a0), Prod.fst (Prod.snd (Prod.snd a0)), ())))))))))
def Xfoot_Lookup (a0 : Int × Bool × ByteArray × Int × Bool × ByteArray × Bool × Int × Int × Int × Int × Int × Int × Int × Int × Int × Int × Unit) (a1 : Int) (K : (Int × Bool × ByteArray × Unit) → Prop) : Prop := Yfoot_Lookup Xnum_Add Xfoot_year Xfoot_Span a0 a1 K
def Jfoot_Lookup (X : (Int × Bool × ByteArray × Int × Bool × ByteArray × Bool × Int × Int × Int × Int × Int × Int × Int × Int × Int × Int × Unit) → (Int) → ((Int × Bool × ByteArray × Unit) → Prop) → Prop) : Inst := ⟨11, (.cons (.agg (.cons (.int .i64) (.cons .bool (.cons .str (.cons (.int .i64) (.cons .bool (.cons .str (.cons .bool (.cons (.int .i64) (.cons (.int .i64) (.cons (.int .i64) (.cons (.int .i64) (.cons (.int .i64) (.cons (.int .i64) (.cons (.int .i64) (.cons (.int .i64) (.cons (.int .i64) (.cons (.int .i64) .nil)))))))))))))))))) (.cons (.int .i64) .nil)), .nil, (.cons (.agg (.cons (.int .i64) (.cons .bool (.cons .str .nil)))) .nil), .nil, fun x y K => X x.1 x.2.1 (fun u0 => K (u0, ()) ())⟩
def Ifoot_Lookup : Inst := Jfoot_Lookup Xfoot_Lookup
theorem Efoot_Lookup (xnum_Add : (Int) → (Int) → ((Int) → (Bool) → Prop) → Prop) (xfoot_year : (Int) → ((Int) → (Bool) → Prop) → Prop) (xfoot_Span : (Int × Bool × ByteArray × Int × Bool × ByteArray × Bool × Int × Int × Int × Int × Int × Int × Int × Int × Int × Int × Unit) → (Int) → ((Int) → (Int) → (Bool) → Prop) → Prop) (x : PL.T (.cons (.agg (.cons (.int .i64) (.cons .bool (.cons .str (.cons (.int .i64) (.cons .bool (.cons .str (.cons .bool (.cons (.int .i64) (.cons (.int .i64) (.cons (.int .i64) (.cons (.int .i64) (.cons (.int .i64) (.cons (.int .i64) (.cons (.int .i64) (.cons (.int .i64) (.cons (.int .i64) (.cons (.int .i64) .nil)))))))))))))))))) (.cons (.int .i64) .nil))) (y : PH.T .nil) (K : PL.T (.cons (.agg (.cons (.int .i64) (.cons .bool (.cons .str .nil)))) .nil) → PH.T .nil → Prop) : Yfoot_Lookup xnum_Add xfoot_year xfoot_Span x.1 x.2.1 (fun u0 => K (u0, ()) ()) = bodyC (envP Tryd.prog 71 gives ⟨tabC [Jnum_Add xnum_Add, Jfoot_year xfoot_year, Jfoot_Span xfoot_Span], tabL []⟩) Tryd.f11 (Tryd.f11.body.getD .skip) (PL.enc (.cons (.agg (.cons (.int .i64) (.cons .bool (.cons .str (.cons (.int .i64) (.cons .bool (.cons .str (.cons .bool (.cons (.int .i64) (.cons (.int .i64) (.cons (.int .i64) (.cons (.int .i64) (.cons (.int .i64) (.cons (.int .i64) (.cons (.int .i64) (.cons (.int .i64) (.cons (.int .i64) (.cons (.int .i64) .nil)))))))))))))))))) (.cons (.int .i64) .nil)) x) (PH.enc .nil y) (resK (.cons (.agg (.cons (.int .i64) (.cons .bool (.cons .str .nil)))) .nil) .nil K) := by kernel_rfl
theorem Ifoot_Lookup_ok : InstOk Tryd.prog G.1 Ifoot_Lookup := inst_ok (gives := gives) (is := [Inum_Add, Ifoot_year, Ifoot_Span]) [] (okCons Inum_Add_ok (okCons Ifoot_year_ok (okCons Ifoot_Span_ok okNil))) 71 follows Tryd.func11 (by kernel_rfl) (fun x => by kernel_rfl) (fun x y K => Efoot_Lookup Xnum_Add Xfoot_year Xfoot_Span x y K)

/- epact/epactlaw18.small -/
def Yepactlaw18_small (xfoot_Parse : (ByteArray) → ((Int × Bool × ByteArray × Int × Bool × ByteArray × Bool × Int × Int × Int × Int × Int × Int × Int × Int × Int × Int × Unit) → (Bool) → Prop) → Prop) (xfoot_Text : (Int × Bool × ByteArray × Int × Bool × ByteArray × Bool × Int × Int × Int × Int × Int × Int × Int × Int × Int × Int × Unit) → ((ByteArray) → (Bool) → Prop) → Prop) (xfoot_Span : (Int × Bool × ByteArray × Int × Bool × ByteArray × Bool × Int × Int × Int × Int × Int × Int × Int × Int × Int × Int × Unit) → (Int) → ((Int) → (Int) → (Bool) → Prop) → Prop) (xfoot_Lookup : (Int × Bool × ByteArray × Int × Bool × ByteArray × Bool × Int × Int × Int × Int × Int × Int × Int × Int × Int × Int × Unit) → (Int) → ((Int × Bool × ByteArray × Unit) → Prop) → Prop) (xfoot_Right : (Int × Bool × ByteArray × Int × Bool × ByteArray × Bool × Int × Int × Int × Int × Int × Int × Int × Int × Int × Int × Unit) → ((Bool) → Prop) → Prop) (K : (Bool) → Prop) : Prop :=
  xfoot_Parse (ByteArray.mk #[(69 : UInt8), (83 : UInt8), (84 : UInt8), (53 : UInt8), (69 : UInt8), (68 : UInt8), (84 : UInt8), (44 : UInt8), (77 : UInt8), (51 : UInt8), (46 : UInt8), (50 : UInt8), (46 : UInt8), (48 : UInt8), (44 : UInt8), (77 : UInt8), (49 : UInt8), (49 : UInt8), (46 : UInt8), (49 : UInt8), (46 : UInt8), (48 : UInt8)]) (fun r0 r1 =>
    xfoot_Text ((-18000 : Int), false, ByteArray.mk #[(69 : UInt8), (83 : UInt8), (84 : UInt8)], (-14400 : Int), true, ByteArray.mk #[(69 : UInt8), (68 : UInt8), (84 : UInt8)], true, (0 : Int), (3 : Int), (2 : Int), (0 : Int), (7200 : Int), (0 : Int), (11 : Int), (1 : Int), (0 : Int), (7200 : Int), ()) (fun r2 r3 =>
      xfoot_Parse (ByteArray.mk #[(60 : UInt8), (43 : UInt8), (48 : UInt8), (53 : UInt8), (51 : UInt8), (48 : UInt8), (62 : UInt8), (45 : UInt8), (53 : UInt8), (58 : UInt8), (51 : UInt8), (48 : UInt8)]) (fun r4 r5 =>
        xfoot_Parse (ByteArray.mk #[(69 : UInt8), (83 : UInt8), (84 : UInt8), (53 : UInt8), (69 : UInt8), (68 : UInt8), (84 : UInt8)]) (fun r6 r7 =>
          xfoot_Parse (ByteArray.mk #[(69 : UInt8), (83 : UInt8), (84 : UInt8)]) (fun r8 r9 =>
            xfoot_Parse (ByteArray.mk #[(69 : UInt8), (83 : UInt8), (84 : UInt8), (50 : UInt8), (53 : UInt8)]) (fun r10 r11 =>
              xfoot_Parse (ByteArray.mk #[(60 : UInt8), (45 : UInt8), (48 : UInt8), (51 : UInt8), (62 : UInt8), (51 : UInt8), (60 : UInt8), (45 : UInt8), (48 : UInt8), (50 : UInt8), (62 : UInt8), (44 : UInt8), (77 : UInt8), (51 : UInt8), (46 : UInt8), (53 : UInt8), (46 : UInt8), (48 : UInt8), (47 : UInt8), (45 : UInt8), (50 : UInt8), (44 : UInt8), (77 : UInt8), (49 : UInt8), (48 : UInt8), (46 : UInt8), (53 : UInt8), (46 : UInt8), (48 : UInt8), (47 : UInt8), (45 : UInt8), (49 : UInt8)]) (fun r12 r13 =>
                xfoot_Span ((-18000 : Int), false, ByteArray.mk #[(69 : UInt8), (83 : UInt8), (84 : UInt8)], (-14400 : Int), true, ByteArray.mk #[(69 : UInt8), (68 : UInt8), (84 : UInt8)], true, (0 : Int), (3 : Int), (2 : Int), (0 : Int), (7200 : Int), (0 : Int), (11 : Int), (1 : Int), (0 : Int), (7200 : Int), ()) (2024 : Int) (fun r14 r15 r16 =>
                  (if r1 = true then
                    (lt (Prod.fst r0 == (-18000 : Int) && (Prod.fst (Prod.snd r0) == false && (ByteArray.toList (Prod.fst (Prod.snd (Prod.snd r0))) == ByteArray.toList (ByteArray.mk #[(69 : UInt8), (83 : UInt8), (84 : UInt8)]) && true)) && (Prod.fst (Prod.snd (Prod.snd (Prod.snd r0))) == (-14400 : Int) && (Prod.fst (Prod.snd (Prod.snd (Prod.snd (Prod.snd r0)))) == true && (ByteArray.toList (Prod.fst (Prod.snd (Prod.snd (Prod.snd (Prod.snd (Prod.snd r0)))))) == ByteArray.toList (ByteArray.mk #[(69 : UInt8), (68 : UInt8), (84 : UInt8)]) && true)) && (Prod.fst (Prod.snd (Prod.snd (Prod.snd (Prod.snd (Prod.snd (Prod.snd r0)))))) == true && (Prod.fst (Prod.snd (Prod.snd (Prod.snd (Prod.snd (Prod.snd (Prod.snd (Prod.snd r0))))))) == (0 : Int) && (Prod.fst (Prod.snd (Prod.snd (Prod.snd (Prod.snd (Prod.snd (Prod.snd (Prod.snd (Prod.snd r0)))))))) == (3 : Int) && (Prod.fst (Prod.snd (Prod.snd (Prod.snd (Prod.snd (Prod.snd (Prod.snd (Prod.snd (Prod.snd (Prod.snd r0))))))))) == (2 : Int) && (Prod.fst (Prod.snd (Prod.snd (Prod.snd (Prod.snd (Prod.snd (Prod.snd (Prod.snd (Prod.snd (Prod.snd (Prod.snd r0)))))))))) == (0 : Int) && (Prod.fst (Prod.snd (Prod.snd (Prod.snd (Prod.snd (Prod.snd (Prod.snd (Prod.snd (Prod.snd (Prod.snd (Prod.snd (Prod.snd r0))))))))))) == (7200 : Int) && true)))) && (Prod.fst (Prod.snd (Prod.snd (Prod.snd (Prod.snd (Prod.snd (Prod.snd (Prod.snd (Prod.snd (Prod.snd (Prod.snd (Prod.snd (Prod.snd r0)))))))))))) == (0 : Int) && (Prod.fst (Prod.snd (Prod.snd (Prod.snd (Prod.snd (Prod.snd (Prod.snd (Prod.snd (Prod.snd (Prod.snd (Prod.snd (Prod.snd (Prod.snd (Prod.snd r0))))))))))))) == (11 : Int) && (Prod.fst (Prod.snd (Prod.snd (Prod.snd (Prod.snd (Prod.snd (Prod.snd (Prod.snd (Prod.snd (Prod.snd (Prod.snd (Prod.snd (Prod.snd (Prod.snd (Prod.snd r0)))))))))))))) == (1 : Int) && (Prod.fst (Prod.snd (Prod.snd (Prod.snd (Prod.snd (Prod.snd (Prod.snd (Prod.snd (Prod.snd (Prod.snd (Prod.snd (Prod.snd (Prod.snd (Prod.snd (Prod.snd (Prod.snd r0))))))))))))))) == (0 : Int) && (Prod.fst (Prod.snd (Prod.snd (Prod.snd (Prod.snd (Prod.snd (Prod.snd (Prod.snd (Prod.snd (Prod.snd (Prod.snd (Prod.snd (Prod.snd (Prod.snd (Prod.snd (Prod.snd (Prod.snd r0)))))))))))))))) == (7200 : Int) && true)))) && true))))) fun v17 =>
                    (if v17 = true then
                      (if r3 = true then
                        (lt (ByteArray.toList r2 == ByteArray.toList (ByteArray.mk #[(69 : UInt8), (83 : UInt8), (84 : UInt8), (53 : UInt8), (69 : UInt8), (68 : UInt8), (84 : UInt8), (44 : UInt8), (77 : UInt8), (51 : UInt8), (46 : UInt8), (50 : UInt8), (46 : UInt8), (48 : UInt8), (44 : UInt8), (77 : UInt8), (49 : UInt8), (49 : UInt8), (46 : UInt8), (49 : UInt8), (46 : UInt8), (48 : UInt8)])) fun v18 =>
                        (if v18 = true then
                          (if r5 = true then
                            (lt (Prod.fst r4 == (19800 : Int) && (Prod.fst (Prod.snd r4) == false && (ByteArray.toList (Prod.fst (Prod.snd (Prod.snd r4))) == ByteArray.toList (ByteArray.mk #[(43 : UInt8), (48 : UInt8), (53 : UInt8), (51 : UInt8), (48 : UInt8)]) && true)) && (Prod.fst (Prod.snd (Prod.snd (Prod.snd r4))) == (0 : Int) && (Prod.fst (Prod.snd (Prod.snd (Prod.snd (Prod.snd r4)))) == false && (ByteArray.toList (Prod.fst (Prod.snd (Prod.snd (Prod.snd (Prod.snd (Prod.snd r4)))))) == ByteArray.toList (ByteArray.mk #[]) && true)) && (Prod.fst (Prod.snd (Prod.snd (Prod.snd (Prod.snd (Prod.snd (Prod.snd r4)))))) == false && (Prod.fst (Prod.snd (Prod.snd (Prod.snd (Prod.snd (Prod.snd (Prod.snd (Prod.snd r4))))))) == (0 : Int) && (Prod.fst (Prod.snd (Prod.snd (Prod.snd (Prod.snd (Prod.snd (Prod.snd (Prod.snd (Prod.snd r4)))))))) == (0 : Int) && (Prod.fst (Prod.snd (Prod.snd (Prod.snd (Prod.snd (Prod.snd (Prod.snd (Prod.snd (Prod.snd (Prod.snd r4))))))))) == (0 : Int) && (Prod.fst (Prod.snd (Prod.snd (Prod.snd (Prod.snd (Prod.snd (Prod.snd (Prod.snd (Prod.snd (Prod.snd (Prod.snd r4)))))))))) == (0 : Int) && (Prod.fst (Prod.snd (Prod.snd (Prod.snd (Prod.snd (Prod.snd (Prod.snd (Prod.snd (Prod.snd (Prod.snd (Prod.snd (Prod.snd r4))))))))))) == (0 : Int) && true)))) && (Prod.fst (Prod.snd (Prod.snd (Prod.snd (Prod.snd (Prod.snd (Prod.snd (Prod.snd (Prod.snd (Prod.snd (Prod.snd (Prod.snd (Prod.snd r4)))))))))))) == (0 : Int) && (Prod.fst (Prod.snd (Prod.snd (Prod.snd (Prod.snd (Prod.snd (Prod.snd (Prod.snd (Prod.snd (Prod.snd (Prod.snd (Prod.snd (Prod.snd (Prod.snd r4))))))))))))) == (0 : Int) && (Prod.fst (Prod.snd (Prod.snd (Prod.snd (Prod.snd (Prod.snd (Prod.snd (Prod.snd (Prod.snd (Prod.snd (Prod.snd (Prod.snd (Prod.snd (Prod.snd (Prod.snd r4)))))))))))))) == (0 : Int) && (Prod.fst (Prod.snd (Prod.snd (Prod.snd (Prod.snd (Prod.snd (Prod.snd (Prod.snd (Prod.snd (Prod.snd (Prod.snd (Prod.snd (Prod.snd (Prod.snd (Prod.snd (Prod.snd r4))))))))))))))) == (0 : Int) && (Prod.fst (Prod.snd (Prod.snd (Prod.snd (Prod.snd (Prod.snd (Prod.snd (Prod.snd (Prod.snd (Prod.snd (Prod.snd (Prod.snd (Prod.snd (Prod.snd (Prod.snd (Prod.snd (Prod.snd r4)))))))))))))))) == (0 : Int) && true)))) && true))))) fun v19 =>
                            (if v19 = true then
                              (if (!r7) = true then
                                (if (!r9) = true then
                                  (if (!r11) = true then
                                    (if r13 = true then
                                      (if (Prod.fst (Prod.snd (Prod.snd (Prod.snd r12))) == (-7200 : Int)) = true then
                                        (if (Prod.fst (Prod.snd (Prod.snd (Prod.snd (Prod.snd (Prod.snd (Prod.snd (Prod.snd (Prod.snd (Prod.snd (Prod.snd (Prod.snd r12))))))))))) == (-7200 : Int)) = true then
                                          (if r16 = true then
                                            (if (r14 == (1710054000 : Int)) = true then
                                              (if (r15 == (1730613600 : Int)) = true then
                                                xfoot_Lookup ((-18000 : Int), false, ByteArray.mk #[(69 : UInt8), (83 : UInt8), (84 : UInt8)], (-14400 : Int), true, ByteArray.mk #[(69 : UInt8), (68 : UInt8), (84 : UInt8)], true, (0 : Int), (3 : Int), (2 : Int), (0 : Int), (7200 : Int), (0 : Int), (11 : Int), (1 : Int), (0 : Int), (7200 : Int), ()) (1710053999 : Int) (fun r20 =>
                                                  (lt (Prod.fst r20 == (-18000 : Int) && (Prod.fst (Prod.snd r20) == false && (ByteArray.toList (Prod.fst (Prod.snd (Prod.snd r20))) == ByteArray.toList (ByteArray.mk #[(69 : UInt8), (83 : UInt8), (84 : UInt8)]) && true))) fun v21 =>
                                                  (if v21 = true then
                                                    xfoot_Lookup ((-18000 : Int), false, ByteArray.mk #[(69 : UInt8), (83 : UInt8), (84 : UInt8)], (-14400 : Int), true, ByteArray.mk #[(69 : UInt8), (68 : UInt8), (84 : UInt8)], true, (0 : Int), (3 : Int), (2 : Int), (0 : Int), (7200 : Int), (0 : Int), (11 : Int), (1 : Int), (0 : Int), (7200 : Int), ()) (1710054000 : Int) (fun r22 =>
                                                      (lt (Prod.fst r22 == (-14400 : Int) && (Prod.fst (Prod.snd r22) == true && (ByteArray.toList (Prod.fst (Prod.snd (Prod.snd r22))) == ByteArray.toList (ByteArray.mk #[(69 : UInt8), (68 : UInt8), (84 : UInt8)]) && true))) fun v23 =>
                                                      (if v23 = true then
                                                        xfoot_Lookup ((-18000 : Int), false, ByteArray.mk #[(69 : UInt8), (83 : UInt8), (84 : UInt8)], (-14400 : Int), true, ByteArray.mk #[(69 : UInt8), (68 : UInt8), (84 : UInt8)], true, (0 : Int), (3 : Int), (2 : Int), (0 : Int), (7200 : Int), (0 : Int), (11 : Int), (1 : Int), (0 : Int), (7200 : Int), ()) (1730613599 : Int) (fun r24 =>
                                                          (lt (Prod.fst r24 == (-14400 : Int) && (Prod.fst (Prod.snd r24) == true && (ByteArray.toList (Prod.fst (Prod.snd (Prod.snd r24))) == ByteArray.toList (ByteArray.mk #[(69 : UInt8), (68 : UInt8), (84 : UInt8)]) && true))) fun v25 =>
                                                          (if v25 = true then
                                                            xfoot_Lookup ((-18000 : Int), false, ByteArray.mk #[(69 : UInt8), (83 : UInt8), (84 : UInt8)], (-14400 : Int), true, ByteArray.mk #[(69 : UInt8), (68 : UInt8), (84 : UInt8)], true, (0 : Int), (3 : Int), (2 : Int), (0 : Int), (7200 : Int), (0 : Int), (11 : Int), (1 : Int), (0 : Int), (7200 : Int), ()) (1730613600 : Int) (fun r26 =>
                                                              (lt (Prod.fst r26 == (-18000 : Int) && (Prod.fst (Prod.snd r26) == false && (ByteArray.toList (Prod.fst (Prod.snd (Prod.snd r26))) == ByteArray.toList (ByteArray.mk #[(69 : UInt8), (83 : UInt8), (84 : UInt8)]) && true))) fun v27 =>
                                                              (if v27 = true then
                                                                xfoot_Lookup ((-18000 : Int), false, ByteArray.mk #[(69 : UInt8), (83 : UInt8), (84 : UInt8)], (-14400 : Int), true, ByteArray.mk #[(69 : UInt8), (68 : UInt8), (84 : UInt8)], true, (0 : Int), (11 : Int), (1 : Int), (0 : Int), (7200 : Int), (0 : Int), (3 : Int), (2 : Int), (0 : Int), (7200 : Int), ()) (1704085200 : Int) (fun r28 =>
                                                                  (lt (Prod.fst r28 == (-14400 : Int) && (Prod.fst (Prod.snd r28) == true && (ByteArray.toList (Prod.fst (Prod.snd (Prod.snd r28))) == ByteArray.toList (ByteArray.mk #[(69 : UInt8), (68 : UInt8), (84 : UInt8)]) && true))) fun v29 =>
                                                                  (if v29 = true then
                                                                    xfoot_Lookup r4 (5 : Int) (fun r30 =>
                                                                      (lt (Prod.fst r30 == Prod.fst r4 && (Prod.fst (Prod.snd r30) == Prod.fst (Prod.snd r4) && (ByteArray.toList (Prod.fst (Prod.snd (Prod.snd r30))) == ByteArray.toList (Prod.fst (Prod.snd (Prod.snd r4))) && true))) fun v31 =>
                                                                      (if v31 = true then
                                                                        xfoot_Right ((-18000 : Int), false, ByteArray.mk #[(69 : UInt8), (83 : UInt8), (84 : UInt8)], (-14400 : Int), true, ByteArray.mk #[(69 : UInt8), (68 : UInt8), (84 : UInt8)], true, (0 : Int), (3 : Int), (2 : Int), (0 : Int), (7200 : Int), (0 : Int), (11 : Int), (1 : Int), (0 : Int), (7200 : Int), ()) (fun r32 =>
                                                                          (if r32 = true then
                                                                            xfoot_Right ((0 : Int), false, ByteArray.mk #[], (0 : Int), false, ByteArray.mk #[], false, (0 : Int), (0 : Int), (0 : Int), (0 : Int), (0 : Int), (0 : Int), (0 : Int), (0 : Int), (0 : Int), (0 : Int), ()) (fun r33 =>
                                                                              K !r33)
                                                                          else
                                                                            K false))
                                                                      else
                                                                        K false)))
                                                                  else
                                                                    K false)))
                                                              else
                                                                K false)))
                                                          else
                                                            K false)))
                                                      else
                                                        K false)))
                                                  else
                                                    K false)))
                                              else
                                                K false)
                                            else
                                              K false)
                                          else
                                            K false)
                                        else
                                          K false)
                                      else
                                        K false)
                                    else
                                      K false)
                                  else
                                    K false)
                                else
                                  K false)
                              else
                                K false)
                            else
                              K false))
                          else
                            K false)
                        else
                          K false))
                      else
                        K false)
                    else
                      K false))
                  else
                    K false)))))))))
def Xepactlaw18_small (K : (Bool) → Prop) : Prop := Yepactlaw18_small Xfoot_Parse Xfoot_Text Xfoot_Span Xfoot_Lookup Xfoot_Right K
def Jepactlaw18_small (X : ((Bool) → Prop) → Prop) : Inst := ⟨7, .nil, .nil, (.cons .bool .nil), .nil, fun x y K => X (fun u0 => K (u0, ()) ())⟩
def Iepactlaw18_small : Inst := Jepactlaw18_small Xepactlaw18_small
theorem Eepactlaw18_small (xfoot_Parse : (ByteArray) → ((Int × Bool × ByteArray × Int × Bool × ByteArray × Bool × Int × Int × Int × Int × Int × Int × Int × Int × Int × Int × Unit) → (Bool) → Prop) → Prop) (xfoot_Text : (Int × Bool × ByteArray × Int × Bool × ByteArray × Bool × Int × Int × Int × Int × Int × Int × Int × Int × Int × Int × Unit) → ((ByteArray) → (Bool) → Prop) → Prop) (xfoot_Span : (Int × Bool × ByteArray × Int × Bool × ByteArray × Bool × Int × Int × Int × Int × Int × Int × Int × Int × Int × Int × Unit) → (Int) → ((Int) → (Int) → (Bool) → Prop) → Prop) (xfoot_Lookup : (Int × Bool × ByteArray × Int × Bool × ByteArray × Bool × Int × Int × Int × Int × Int × Int × Int × Int × Int × Int × Unit) → (Int) → ((Int × Bool × ByteArray × Unit) → Prop) → Prop) (xfoot_Right : (Int × Bool × ByteArray × Int × Bool × ByteArray × Bool × Int × Int × Int × Int × Int × Int × Int × Int × Int × Int × Unit) → ((Bool) → Prop) → Prop) (x : PL.T .nil) (y : PH.T .nil) (K : PL.T (.cons .bool .nil) → PH.T .nil → Prop) : Yepactlaw18_small xfoot_Parse xfoot_Text xfoot_Span xfoot_Lookup xfoot_Right (fun u0 => K (u0, ()) ()) = bodyC (envP Tryd.prog 178 gives ⟨tabC [Jfoot_Parse xfoot_Parse, Jfoot_Text xfoot_Text, Jfoot_Span xfoot_Span, Jfoot_Lookup xfoot_Lookup, Jfoot_Right xfoot_Right], tabL []⟩) Tryd.f7 (Tryd.f7.body.getD .skip) (PL.enc .nil x) (PH.enc .nil y) (resK (.cons .bool .nil) .nil K) := by kernel_rfl
theorem Iepactlaw18_small_ok : InstOk Tryd.prog G.1 Iepactlaw18_small := inst_ok (gives := gives) (is := [Ifoot_Parse, Ifoot_Text, Ifoot_Span, Ifoot_Lookup, Ifoot_Right]) [] (okCons Ifoot_Parse_ok (okCons Ifoot_Text_ok (okCons Ifoot_Span_ok (okCons Ifoot_Lookup_ok (okCons Ifoot_Right_ok okNil))))) 178 follows Tryd.func7 (by kernel_rfl) (fun x => by kernel_rfl) (fun x y K => Eepactlaw18_small Xfoot_Parse Xfoot_Text Xfoot_Span Xfoot_Lookup Xfoot_Right x y K)

end Go.Proofs.YtcopbcfekmbhlaaDoor
end
section
set_option linter.unusedVariables false
set_option linter.unusedSimpArgs false
namespace Go.Proofs.YtcopbcfekmbhlaaDoor
open Go Go.Proofs.YtcopbcfekmbhlaaDoor.Eng
set_option linter.unusedVariables false
set_option maxRecDepth 100000
set_option maxHeartbeats 4000000
variable {G : Gs}
/- epact/epactlaw18.FootBack -/
def Yepactlaw18_FootBack (xepactlaw18_small : ((Bool) → Prop) → Prop) (xfoot_Text : (Int × Bool × ByteArray × Int × Bool × ByteArray × Bool × Int × Int × Int × Int × Int × Int × Int × Int × Int × Int × Unit) → ((ByteArray) → (Bool) → Prop) → Prop) (xfoot_Right : (Int × Bool × ByteArray × Int × Bool × ByteArray × Bool × Int × Int × Int × Int × Int × Int × Int × Int × Int × Int × Unit) → ((Bool) → Prop) → Prop) (xfoot_Parse : (ByteArray) → ((Int × Bool × ByteArray × Int × Bool × ByteArray × Bool × Int × Int × Int × Int × Int × Int × Int × Int × Int × Int × Unit) → (Bool) → Prop) → Prop) (a0 : Int × Bool × ByteArray × Int × Bool × ByteArray × Bool × Int × Int × Int × Int × Int × Int × Int × Int × Int × Int × Unit) (a1 : ByteArray) (K : (Bool) → Prop) : Prop :=
  xepactlaw18_small (fun r2 =>
    (if decide ((↑(ByteArray.size a1) : Int) > (200 : Int)) = true then
      K r2
    else
      (if decide ((↑(ByteArray.size (Prod.fst (Prod.snd (Prod.snd a0)))) : Int) > (100 : Int)) = true then
        K r2
      else
        (if decide ((↑(ByteArray.size (Prod.fst (Prod.snd (Prod.snd (Prod.snd (Prod.snd (Prod.snd a0))))))) : Int) > (100 : Int)) = true then
          K r2
        else
          xfoot_Text a0 (fun r3 r4 =>
            xfoot_Right a0 (fun r5 =>
              (if (!r4 == r5) = true then
                K false
              else
                (if (!r4) = true then
                  (if (!ByteArray.toList r3 == ByteArray.toList (ByteArray.mk #[])) = true then
                    K false
                  else
                    (if r4 = true then
                      xfoot_Parse r3 (fun r6 r7 =>
                        (if (!r7) = true then
                          K false
                        else
                          (lt (!(Prod.fst r6 == Prod.fst a0 && (Prod.fst (Prod.snd r6) == Prod.fst (Prod.snd a0) && (ByteArray.toList (Prod.fst (Prod.snd (Prod.snd r6))) == ByteArray.toList (Prod.fst (Prod.snd (Prod.snd a0))) && true)) && (Prod.fst (Prod.snd (Prod.snd (Prod.snd r6))) == Prod.fst (Prod.snd (Prod.snd (Prod.snd a0))) && (Prod.fst (Prod.snd (Prod.snd (Prod.snd (Prod.snd r6)))) == Prod.fst (Prod.snd (Prod.snd (Prod.snd (Prod.snd a0)))) && (ByteArray.toList (Prod.fst (Prod.snd (Prod.snd (Prod.snd (Prod.snd (Prod.snd r6)))))) == ByteArray.toList (Prod.fst (Prod.snd (Prod.snd (Prod.snd (Prod.snd (Prod.snd a0)))))) && true)) && (Prod.fst (Prod.snd (Prod.snd (Prod.snd (Prod.snd (Prod.snd (Prod.snd r6)))))) == Prod.fst (Prod.snd (Prod.snd (Prod.snd (Prod.snd (Prod.snd (Prod.snd a0)))))) && (Prod.fst (Prod.snd (Prod.snd (Prod.snd (Prod.snd (Prod.snd (Prod.snd (Prod.snd r6))))))) == Prod.fst (Prod.snd (Prod.snd (Prod.snd (Prod.snd (Prod.snd (Prod.snd (Prod.snd a0))))))) && (Prod.fst (Prod.snd (Prod.snd (Prod.snd (Prod.snd (Prod.snd (Prod.snd (Prod.snd (Prod.snd r6)))))))) == Prod.fst (Prod.snd (Prod.snd (Prod.snd (Prod.snd (Prod.snd (Prod.snd (Prod.snd (Prod.snd a0)))))))) && (Prod.fst (Prod.snd (Prod.snd (Prod.snd (Prod.snd (Prod.snd (Prod.snd (Prod.snd (Prod.snd (Prod.snd r6))))))))) == Prod.fst (Prod.snd (Prod.snd (Prod.snd (Prod.snd (Prod.snd (Prod.snd (Prod.snd (Prod.snd (Prod.snd a0))))))))) && (Prod.fst (Prod.snd (Prod.snd (Prod.snd (Prod.snd (Prod.snd (Prod.snd (Prod.snd (Prod.snd (Prod.snd (Prod.snd r6)))))))))) == Prod.fst (Prod.snd (Prod.snd (Prod.snd (Prod.snd (Prod.snd (Prod.snd (Prod.snd (Prod.snd (Prod.snd (Prod.snd a0)))))))))) && (Prod.fst (Prod.snd (Prod.snd (Prod.snd (Prod.snd (Prod.snd (Prod.snd (Prod.snd (Prod.snd (Prod.snd (Prod.snd (Prod.snd r6))))))))))) == Prod.fst (Prod.snd (Prod.snd (Prod.snd (Prod.snd (Prod.snd (Prod.snd (Prod.snd (Prod.snd (Prod.snd (Prod.snd (Prod.snd a0))))))))))) && true)))) && (Prod.fst (Prod.snd (Prod.snd (Prod.snd (Prod.snd (Prod.snd (Prod.snd (Prod.snd (Prod.snd (Prod.snd (Prod.snd (Prod.snd (Prod.snd r6)))))))))))) == Prod.fst (Prod.snd (Prod.snd (Prod.snd (Prod.snd (Prod.snd (Prod.snd (Prod.snd (Prod.snd (Prod.snd (Prod.snd (Prod.snd (Prod.snd a0)))))))))))) && (Prod.fst (Prod.snd (Prod.snd (Prod.snd (Prod.snd (Prod.snd (Prod.snd (Prod.snd (Prod.snd (Prod.snd (Prod.snd (Prod.snd (Prod.snd (Prod.snd r6))))))))))))) == Prod.fst (Prod.snd (Prod.snd (Prod.snd (Prod.snd (Prod.snd (Prod.snd (Prod.snd (Prod.snd (Prod.snd (Prod.snd (Prod.snd (Prod.snd (Prod.snd a0))))))))))))) && (Prod.fst (Prod.snd (Prod.snd (Prod.snd (Prod.snd (Prod.snd (Prod.snd (Prod.snd (Prod.snd (Prod.snd (Prod.snd (Prod.snd (Prod.snd (Prod.snd (Prod.snd r6)))))))))))))) == Prod.fst (Prod.snd (Prod.snd (Prod.snd (Prod.snd (Prod.snd (Prod.snd (Prod.snd (Prod.snd (Prod.snd (Prod.snd (Prod.snd (Prod.snd (Prod.snd (Prod.snd a0)))))))))))))) && (Prod.fst (Prod.snd (Prod.snd (Prod.snd (Prod.snd (Prod.snd (Prod.snd (Prod.snd (Prod.snd (Prod.snd (Prod.snd (Prod.snd (Prod.snd (Prod.snd (Prod.snd (Prod.snd r6))))))))))))))) == Prod.fst (Prod.snd (Prod.snd (Prod.snd (Prod.snd (Prod.snd (Prod.snd (Prod.snd (Prod.snd (Prod.snd (Prod.snd (Prod.snd (Prod.snd (Prod.snd (Prod.snd (Prod.snd a0))))))))))))))) && (Prod.fst (Prod.snd (Prod.snd (Prod.snd (Prod.snd (Prod.snd (Prod.snd (Prod.snd (Prod.snd (Prod.snd (Prod.snd (Prod.snd (Prod.snd (Prod.snd (Prod.snd (Prod.snd (Prod.snd r6)))))))))))))))) == Prod.fst (Prod.snd (Prod.snd (Prod.snd (Prod.snd (Prod.snd (Prod.snd (Prod.snd (Prod.snd (Prod.snd (Prod.snd (Prod.snd (Prod.snd (Prod.snd (Prod.snd (Prod.snd (Prod.snd a0)))))))))))))))) && true)))) && true)))))) fun v8 =>
                          (if v8 = true then
                            K false
                          else
                            xfoot_Parse a1 (fun r9 r10 =>
                              (if (!r10) = true then
                                (if r2 = true then
                                  (lt (Prod.fst r9 == (0 : Int) && (Prod.fst (Prod.snd r9) == false && (ByteArray.toList (Prod.fst (Prod.snd (Prod.snd r9))) == ByteArray.toList (ByteArray.mk #[]) && true)) && (Prod.fst (Prod.snd (Prod.snd (Prod.snd r9))) == (0 : Int) && (Prod.fst (Prod.snd (Prod.snd (Prod.snd (Prod.snd r9)))) == false && (ByteArray.toList (Prod.fst (Prod.snd (Prod.snd (Prod.snd (Prod.snd (Prod.snd r9)))))) == ByteArray.toList (ByteArray.mk #[]) && true)) && (Prod.fst (Prod.snd (Prod.snd (Prod.snd (Prod.snd (Prod.snd (Prod.snd r9)))))) == false && (Prod.fst (Prod.snd (Prod.snd (Prod.snd (Prod.snd (Prod.snd (Prod.snd (Prod.snd r9))))))) == (0 : Int) && (Prod.fst (Prod.snd (Prod.snd (Prod.snd (Prod.snd (Prod.snd (Prod.snd (Prod.snd (Prod.snd r9)))))))) == (0 : Int) && (Prod.fst (Prod.snd (Prod.snd (Prod.snd (Prod.snd (Prod.snd (Prod.snd (Prod.snd (Prod.snd (Prod.snd r9))))))))) == (0 : Int) && (Prod.fst (Prod.snd (Prod.snd (Prod.snd (Prod.snd (Prod.snd (Prod.snd (Prod.snd (Prod.snd (Prod.snd (Prod.snd r9)))))))))) == (0 : Int) && (Prod.fst (Prod.snd (Prod.snd (Prod.snd (Prod.snd (Prod.snd (Prod.snd (Prod.snd (Prod.snd (Prod.snd (Prod.snd (Prod.snd r9))))))))))) == (0 : Int) && true)))) && (Prod.fst (Prod.snd (Prod.snd (Prod.snd (Prod.snd (Prod.snd (Prod.snd (Prod.snd (Prod.snd (Prod.snd (Prod.snd (Prod.snd (Prod.snd r9)))))))))))) == (0 : Int) && (Prod.fst (Prod.snd (Prod.snd (Prod.snd (Prod.snd (Prod.snd (Prod.snd (Prod.snd (Prod.snd (Prod.snd (Prod.snd (Prod.snd (Prod.snd (Prod.snd r9))))))))))))) == (0 : Int) && (Prod.fst (Prod.snd (Prod.snd (Prod.snd (Prod.snd (Prod.snd (Prod.snd (Prod.snd (Prod.snd (Prod.snd (Prod.snd (Prod.snd (Prod.snd (Prod.snd (Prod.snd r9)))))))))))))) == (0 : Int) && (Prod.fst (Prod.snd (Prod.snd (Prod.snd (Prod.snd (Prod.snd (Prod.snd (Prod.snd (Prod.snd (Prod.snd (Prod.snd (Prod.snd (Prod.snd (Prod.snd (Prod.snd (Prod.snd r9))))))))))))))) == (0 : Int) && (Prod.fst (Prod.snd (Prod.snd (Prod.snd (Prod.snd (Prod.snd (Prod.snd (Prod.snd (Prod.snd (Prod.snd (Prod.snd (Prod.snd (Prod.snd (Prod.snd (Prod.snd (Prod.snd (Prod.snd r9)))))))))))))))) == (0 : Int) && true)))) && true))))) fun v11 =>
                                  K v11)
                                else
                                  K false)
                              else
                                xfoot_Text r9 (fun r12 r13 =>
                                  xfoot_Parse r12 (fun r14 r15 =>
                                    (if r2 = true then
                                      xfoot_Right r9 (fun r16 =>
                                        (if r16 = true then
                                          (if r13 = true then
                                            (if r15 = true then
                                              (lt (Prod.fst r14 == Prod.fst r9 && (Prod.fst (Prod.snd r14) == Prod.fst (Prod.snd r9) && (ByteArray.toList (Prod.fst (Prod.snd (Prod.snd r14))) == ByteArray.toList (Prod.fst (Prod.snd (Prod.snd r9))) && true)) && (Prod.fst (Prod.snd (Prod.snd (Prod.snd r14))) == Prod.fst (Prod.snd (Prod.snd (Prod.snd r9))) && (Prod.fst (Prod.snd (Prod.snd (Prod.snd (Prod.snd r14)))) == Prod.fst (Prod.snd (Prod.snd (Prod.snd (Prod.snd r9)))) && (ByteArray.toList (Prod.fst (Prod.snd (Prod.snd (Prod.snd (Prod.snd (Prod.snd r14)))))) == ByteArray.toList (Prod.fst (Prod.snd (Prod.snd (Prod.snd (Prod.snd (Prod.snd r9)))))) && true)) && (Prod.fst (Prod.snd (Prod.snd (Prod.snd (Prod.snd (Prod.snd (Prod.snd r14)))))) == Prod.fst (Prod.snd (Prod.snd (Prod.snd (Prod.snd (Prod.snd (Prod.snd r9)))))) && (Prod.fst (Prod.snd (Prod.snd (Prod.snd (Prod.snd (Prod.snd (Prod.snd (Prod.snd r14))))))) == Prod.fst (Prod.snd (Prod.snd (Prod.snd (Prod.snd (Prod.snd (Prod.snd (Prod.snd r9))))))) && (Prod.fst (Prod.snd (Prod.snd (Prod.snd (Prod.snd (Prod.snd (Prod.snd (Prod.snd (Prod.snd r14)))))))) == Prod.fst (Prod.snd (Prod.snd (Prod.snd (Prod.snd (Prod.snd (Prod.snd (Prod.snd (Prod.snd r9)))))))) && (Prod.fst (Prod.snd (Prod.snd (Prod.snd (Prod.snd (Prod.snd (Prod.snd (Prod.snd (Prod.snd (Prod.snd r14))))))))) == Prod.fst (Prod.snd (Prod.snd (Prod.snd (Prod.snd (Prod.snd (Prod.snd (Prod.snd (Prod.snd (Prod.snd r9))))))))) && (Prod.fst (Prod.snd (Prod.snd (Prod.snd (Prod.snd (Prod.snd (Prod.snd (Prod.snd (Prod.snd (Prod.snd (Prod.snd r14)))))))))) == Prod.fst (Prod.snd (Prod.snd (Prod.snd (Prod.snd (Prod.snd (Prod.snd (Prod.snd (Prod.snd (Prod.snd (Prod.snd r9)))))))))) && (Prod.fst (Prod.snd (Prod.snd (Prod.snd (Prod.snd (Prod.snd (Prod.snd (Prod.snd (Prod.snd (Prod.snd (Prod.snd (Prod.snd r14))))))))))) == Prod.fst (Prod.snd (Prod.snd (Prod.snd (Prod.snd (Prod.snd (Prod.snd (Prod.snd (Prod.snd (Prod.snd (Prod.snd (Prod.snd r9))))))))))) && true)))) && (Prod.fst (Prod.snd (Prod.snd (Prod.snd (Prod.snd (Prod.snd (Prod.snd (Prod.snd (Prod.snd (Prod.snd (Prod.snd (Prod.snd (Prod.snd r14)))))))))))) == Prod.fst (Prod.snd (Prod.snd (Prod.snd (Prod.snd (Prod.snd (Prod.snd (Prod.snd (Prod.snd (Prod.snd (Prod.snd (Prod.snd (Prod.snd r9)))))))))))) && (Prod.fst (Prod.snd (Prod.snd (Prod.snd (Prod.snd (Prod.snd (Prod.snd (Prod.snd (Prod.snd (Prod.snd (Prod.snd (Prod.snd (Prod.snd (Prod.snd r14))))))))))))) == Prod.fst (Prod.snd (Prod.snd (Prod.snd (Prod.snd (Prod.snd (Prod.snd (Prod.snd (Prod.snd (Prod.snd (Prod.snd (Prod.snd (Prod.snd (Prod.snd r9))))))))))))) && (Prod.fst (Prod.snd (Prod.snd (Prod.snd (Prod.snd (Prod.snd (Prod.snd (Prod.snd (Prod.snd (Prod.snd (Prod.snd (Prod.snd (Prod.snd (Prod.snd (Prod.snd r14)))))))))))))) == Prod.fst (Prod.snd (Prod.snd (Prod.snd (Prod.snd (Prod.snd (Prod.snd (Prod.snd (Prod.snd (Prod.snd (Prod.snd (Prod.snd (Prod.snd (Prod.snd (Prod.snd r9)))))))))))))) && (Prod.fst (Prod.snd (Prod.snd (Prod.snd (Prod.snd (Prod.snd (Prod.snd (Prod.snd (Prod.snd (Prod.snd (Prod.snd (Prod.snd (Prod.snd (Prod.snd (Prod.snd (Prod.snd r14))))))))))))))) == Prod.fst (Prod.snd (Prod.snd (Prod.snd (Prod.snd (Prod.snd (Prod.snd (Prod.snd (Prod.snd (Prod.snd (Prod.snd (Prod.snd (Prod.snd (Prod.snd (Prod.snd (Prod.snd r9))))))))))))))) && (Prod.fst (Prod.snd (Prod.snd (Prod.snd (Prod.snd (Prod.snd (Prod.snd (Prod.snd (Prod.snd (Prod.snd (Prod.snd (Prod.snd (Prod.snd (Prod.snd (Prod.snd (Prod.snd (Prod.snd r14)))))))))))))))) == Prod.fst (Prod.snd (Prod.snd (Prod.snd (Prod.snd (Prod.snd (Prod.snd (Prod.snd (Prod.snd (Prod.snd (Prod.snd (Prod.snd (Prod.snd (Prod.snd (Prod.snd (Prod.snd (Prod.snd r9)))))))))))))))) && true)))) && true))))) fun v17 =>
                                              K v17)
                                            else
                                              K false)
                                          else
                                            K false)
                                        else
                                          K false))
                                    else
                                      K false)))))))))
                    else
                      xfoot_Parse a1 (fun r18 r19 =>
                        (if (!r19) = true then
                          (if r2 = true then
                            (lt (Prod.fst r18 == (0 : Int) && (Prod.fst (Prod.snd r18) == false && (ByteArray.toList (Prod.fst (Prod.snd (Prod.snd r18))) == ByteArray.toList (ByteArray.mk #[]) && true)) && (Prod.fst (Prod.snd (Prod.snd (Prod.snd r18))) == (0 : Int) && (Prod.fst (Prod.snd (Prod.snd (Prod.snd (Prod.snd r18)))) == false && (ByteArray.toList (Prod.fst (Prod.snd (Prod.snd (Prod.snd (Prod.snd (Prod.snd r18)))))) == ByteArray.toList (ByteArray.mk #[]) && true)) && (Prod.fst (Prod.snd (Prod.snd (Prod.snd (Prod.snd (Prod.snd (Prod.snd r18)))))) == false && (Prod.fst (Prod.snd (Prod.snd (Prod.snd (Prod.snd (Prod.snd (Prod.snd (Prod.snd r18))))))) == (0 : Int) && (Prod.fst (Prod.snd (Prod.snd (Prod.snd (Prod.snd (Prod.snd (Prod.snd (Prod.snd (Prod.snd r18)))))))) == (0 : Int) && (Prod.fst (Prod.snd (Prod.snd (Prod.snd (Prod.snd (Prod.snd (Prod.snd (Prod.snd (Prod.snd (Prod.snd r18))))))))) == (0 : Int) && (Prod.fst (Prod.snd (Prod.snd (Prod.snd (Prod.snd (Prod.snd (Prod.snd (Prod.snd (Prod.snd (Prod.snd (Prod.snd r18)))))))))) == (0 : Int) && (Prod.fst (Prod.snd (Prod.snd (Prod.snd (Prod.snd (Prod.snd (Prod.snd (Prod.snd (Prod.snd (Prod.snd (Prod.snd (Prod.snd r18))))))))))) == (0 : Int) && true)))) && (Prod.fst (Prod.snd (Prod.snd (Prod.snd (Prod.snd (Prod.snd (Prod.snd (Prod.snd (Prod.snd (Prod.snd (Prod.snd (Prod.snd (Prod.snd r18)))))))))))) == (0 : Int) && (Prod.fst (Prod.snd (Prod.snd (Prod.snd (Prod.snd (Prod.snd (Prod.snd (Prod.snd (Prod.snd (Prod.snd (Prod.snd (Prod.snd (Prod.snd (Prod.snd r18))))))))))))) == (0 : Int) && (Prod.fst (Prod.snd (Prod.snd (Prod.snd (Prod.snd (Prod.snd (Prod.snd (Prod.snd (Prod.snd (Prod.snd (Prod.snd (Prod.snd (Prod.snd (Prod.snd (Prod.snd r18)))))))))))))) == (0 : Int) && (Prod.fst (Prod.snd (Prod.snd (Prod.snd (Prod.snd (Prod.snd (Prod.snd (Prod.snd (Prod.snd (Prod.snd (Prod.snd (Prod.snd (Prod.snd (Prod.snd (Prod.snd (Prod.snd r18))))))))))))))) == (0 : Int) && (Prod.fst (Prod.snd (Prod.snd (Prod.snd (Prod.snd (Prod.snd (Prod.snd (Prod.snd (Prod.snd (Prod.snd (Prod.snd (Prod.snd (Prod.snd (Prod.snd (Prod.snd (Prod.snd (Prod.snd r18)))))))))))))))) == (0 : Int) && true)))) && true))))) fun v20 =>
                            K v20)
                          else
                            K false)
                        else
                          xfoot_Text r18 (fun r21 r22 =>
                            xfoot_Parse r21 (fun r23 r24 =>
                              (if r2 = true then
                                xfoot_Right r18 (fun r25 =>
                                  (if r25 = true then
                                    (if r22 = true then
                                      (if r24 = true then
                                        (lt (Prod.fst r23 == Prod.fst r18 && (Prod.fst (Prod.snd r23) == Prod.fst (Prod.snd r18) && (ByteArray.toList (Prod.fst (Prod.snd (Prod.snd r23))) == ByteArray.toList (Prod.fst (Prod.snd (Prod.snd r18))) && true)) && (Prod.fst (Prod.snd (Prod.snd (Prod.snd r23))) == Prod.fst (Prod.snd (Prod.snd (Prod.snd r18))) && (Prod.fst (Prod.snd (Prod.snd (Prod.snd (Prod.snd r23)))) == Prod.fst (Prod.snd (Prod.snd (Prod.snd (Prod.snd r18)))) && (ByteArray.toList (Prod.fst (Prod.snd (Prod.snd (Prod.snd (Prod.snd (Prod.snd r23)))))) == ByteArray.toList (Prod.fst (Prod.snd (Prod.snd (Prod.snd (Prod.snd (Prod.snd r18)))))) && true)) && (Prod.fst (Prod.snd (Prod.snd (Prod.snd (Prod.snd (Prod.snd (Prod.snd r23)))))) == Prod.fst (Prod.snd (Prod.snd (Prod.snd (Prod.snd (Prod.snd (Prod.snd r18)))))) && (Prod.fst (Prod.snd (Prod.snd (Prod.snd (Prod.snd (Prod.snd (Prod.snd (Prod.snd r23))))))) == Prod.fst (Prod.snd (Prod.snd (Prod.snd (Prod.snd (Prod.snd (Prod.snd (Prod.snd r18))))))) && (Prod.fst (Prod.snd (Prod.snd (Prod.snd (Prod.snd (Prod.snd (Prod.snd (Prod.snd (Prod.snd r23)))))))) == Prod.fst (Prod.snd (Prod.snd (Prod.snd (Prod.snd (Prod.snd (Prod.snd (Prod.snd (Prod.snd r18)))))))) && (Prod.fst (Prod.snd (Prod.snd (Prod.snd (Prod.snd (Prod.snd (Prod.snd (Prod.snd (Prod.snd (Prod.snd r23))))))))) == Prod.fst (Prod.snd (Prod.snd (Prod.snd (Prod.snd (Prod.snd (Prod.snd (Prod.snd (Prod.snd (Prod.snd r18))))))))) && (Prod.fst (Prod.snd (Prod.snd (Prod.snd (Prod.snd (Prod.snd (Prod.snd (Prod.snd (Prod.snd (Prod.snd (Prod.snd r23)))))))))) == Prod.fst (Prod.snd (Prod.snd (Prod.snd (Prod.snd (Prod.snd (Prod.snd (Prod.snd (Prod.snd (Prod.snd (Prod.snd r18)))))))))) && (Prod.fst (Prod.snd (Prod.snd (Prod.snd (Prod.snd (Prod.snd (Prod.snd (Prod.snd (Prod.snd (Prod.snd (Prod.snd (Prod.snd r23))))))))))) == Prod.fst (Prod.snd (Prod.snd (Prod.snd (Prod.snd (Prod.snd (Prod.snd (Prod.snd (Prod.snd (Prod.snd (Prod.snd (Prod.snd r18))))))))))) && true)))) && (Prod.fst (Prod.snd (Prod.snd (Prod.snd (Prod.snd (Prod.snd (Prod.snd (Prod.snd (Prod.snd (Prod.snd (Prod.snd (Prod.snd (Prod.snd r23)))))))))))) == Prod.fst (Prod.snd (Prod.snd (Prod.snd (Prod.snd (Prod.snd (Prod.snd (Prod.snd (Prod.snd (Prod.snd (Prod.snd (Prod.snd (Prod.snd r18)))))))))))) && (Prod.fst (Prod.snd (Prod.snd (Prod.snd (Prod.snd (Prod.snd (Prod.snd (Prod.snd (Prod.snd (Prod.snd (Prod.snd (Prod.snd (Prod.snd (Prod.snd r23))))))))))))) == Prod.fst (Prod.snd (Prod.snd (Prod.snd (Prod.snd (Prod.snd (Prod.snd (Prod.snd (Prod.snd (Prod.snd (Prod.snd (Prod.snd (Prod.snd (Prod.snd r18))))))))))))) && (Prod.fst (Prod.snd (Prod.snd (Prod.snd (Prod.snd (Prod.snd (Prod.snd (Prod.snd (Prod.snd (Prod.snd (Prod.snd (Prod.snd (Prod.snd (Prod.snd (Prod.snd r23)))))))))))))) == Prod.fst (Prod.snd (Prod.snd (Prod.snd (Prod.snd (Prod.snd (Prod.snd (Prod.snd (Prod.snd (Prod.snd (Prod.snd (Prod.snd (Prod.snd (Prod.snd (Prod.snd r18)))))))))))))) && (Prod.fst (Prod.snd (Prod.snd (Prod.snd (Prod.snd (Prod.snd (Prod.snd (Prod.snd (Prod.snd (Prod.snd (Prod.snd (Prod.snd (Prod.snd (Prod.snd (Prod.snd (Prod.snd r23))))))))))))))) == Prod.fst (Prod.snd (Prod.snd (Prod.snd (Prod.snd (Prod.snd (Prod.snd (Prod.snd (Prod.snd (Prod.snd (Prod.snd (Prod.snd (Prod.snd (Prod.snd (Prod.snd (Prod.snd r18))))))))))))))) && (Prod.fst (Prod.snd (Prod.snd (Prod.snd (Prod.snd (Prod.snd (Prod.snd (Prod.snd (Prod.snd (Prod.snd (Prod.snd (Prod.snd (Prod.snd (Prod.snd (Prod.snd (Prod.snd (Prod.snd r23)))))))))))))))) == Prod.fst (Prod.snd (Prod.snd (Prod.snd (Prod.snd (Prod.snd (Prod.snd (Prod.snd (Prod.snd (Prod.snd (Prod.snd (Prod.snd (Prod.snd (Prod.snd (Prod.snd (Prod.snd (Prod.snd r18)))))))))))))))) && true)))) && true))))) fun v26 =>
                                        K v26)
                                      else
                                        K false)
                                    else
                                      K false)
                                  else
                                    K false))
                              else
                                K false)))))))
                else
                  (if r4 = true then
                    xfoot_Parse r3 (fun r27 r28 =>
                      (if (!r28) = true then
                        K false
                      else
                        (lt (!(Prod.fst r27 == Prod.fst a0 && (Prod.fst (Prod.snd r27) == Prod.fst (Prod.snd a0) && (ByteArray.toList (Prod.fst (Prod.snd (Prod.snd r27))) == ByteArray.toList (Prod.fst (Prod.snd (Prod.snd a0))) && true)) && (Prod.fst (Prod.snd (Prod.snd (Prod.snd r27))) == Prod.fst (Prod.snd (Prod.snd (Prod.snd a0))) && (Prod.fst (Prod.snd (Prod.snd (Prod.snd (Prod.snd r27)))) == Prod.fst (Prod.snd (Prod.snd (Prod.snd (Prod.snd a0)))) && (ByteArray.toList (Prod.fst (Prod.snd (Prod.snd (Prod.snd (Prod.snd (Prod.snd r27)))))) == ByteArray.toList (Prod.fst (Prod.snd (Prod.snd (Prod.snd (Prod.snd (Prod.snd a0)))))) && true)) && (Prod.fst (Prod.snd (Prod.snd (Prod.snd (Prod.snd (Prod.snd (Prod.snd r27)))))) == Prod.fst (Prod.snd (Prod.snd (Prod.snd (Prod.snd (Prod.snd (Prod.snd a0)))))) && (Prod.fst (Prod.snd (Prod.snd (Prod.snd (Prod.snd (Prod.snd (Prod.snd (Prod.snd r27))))))) == Prod.fst (Prod.snd (Prod.snd (Prod.snd (Prod.snd (Prod.snd (Prod.snd (Prod.snd a0))))))) && (Prod.fst (Prod.snd (Prod.snd (Prod.snd (Prod.snd (Prod.snd (Prod.snd (Prod.snd (Prod.snd r27)))))))) == Prod.fst (Prod.snd (Prod.snd (Prod.snd (Prod.snd (Prod.snd (Prod.snd (Prod.snd (Prod.snd a0)))))))) && (Prod.fst (Prod.snd (Prod.snd (Prod.snd (Prod.snd (Prod.snd (Prod.snd (Prod.snd (Prod.snd (Prod.snd r27))))))))) == Prod.fst (Prod.snd (Prod.snd (Prod.snd (Prod.snd (Prod.snd (Prod.snd (Prod.snd (Prod.snd (Prod.snd a0))))))))) && (Prod.fst (Prod.snd (Prod.snd (Prod.snd (Prod.snd (Prod.snd (Prod.snd (Prod.snd (Prod.snd (Prod.snd (Prod.snd r27)))))))))) == Prod.fst (Prod.snd (Prod.snd (Prod.snd (Prod.snd (Prod.snd (Prod.snd (Prod.snd (Prod.snd (Prod.snd (Prod.snd a0)))))))))) && (Prod.fst (Prod.snd (Prod.snd (Prod.snd (Prod.snd (Prod.snd (Prod.snd (Prod.snd (Prod.snd (Prod.snd (Prod.snd (Prod.snd r27))))))))))) == Prod.fst (Prod.snd (Prod.snd (Prod.snd (Prod.snd (Prod.snd (Prod.snd (Prod.snd (Prod.snd (Prod.snd (Prod.snd (Prod.snd a0))))))))))) && true)))) && (Prod.fst (Prod.snd (Prod.snd (Prod.snd (Prod.snd (Prod.snd (Prod.snd (Prod.snd (Prod.snd (Prod.snd (Prod.snd (Prod.snd (Prod.snd r27)))))))))))) == Prod.fst (Prod.snd (Prod.snd (Prod.snd (Prod.snd (Prod.snd (Prod.snd (Prod.snd (Prod.snd (Prod.snd (Prod.snd (Prod.snd (Prod.snd a0)))))))))))) && (Prod.fst (Prod.snd (Prod.snd (Prod.snd (Prod.snd (Prod.snd (Prod.snd (Prod.snd (Prod.snd (Prod.snd (Prod.snd (Prod.snd (Prod.snd (Prod.snd r27))))))))))))) == Prod.fst (Prod.snd (Prod.snd (Prod.snd (Prod.snd (Prod.snd (Prod.snd (Prod.snd (Prod.snd (Prod.snd (Prod.snd (Prod.snd (Prod.snd (Prod.snd a0))))))))))))) && (Prod.fst (Prod.snd (Prod.snd (Prod.snd (Prod.snd (Prod.snd (Prod.snd (Prod.snd (Prod.snd (Prod.snd (Prod.snd (Prod.snd (Prod.snd (Prod.snd (Prod.snd r27)))))))))))))) == Prod.fst (Prod.snd (Prod.snd (Prod.snd (Prod.snd (Prod.snd (Prod.snd (Prod.snd (Prod.snd (Prod.snd (Prod.snd (Prod.snd (Prod.snd (Prod.snd (Prod.snd a0)))))))))))))) && (Prod.fst (Prod.snd (Prod.snd (Prod.snd (Prod.snd (Prod.snd (Prod.snd (Prod.snd (Prod.snd (Prod.snd (Prod.snd (Prod.snd (Prod.snd (Prod.snd (Prod.snd (Prod.snd r27))))))))))))))) == Prod.fst (Prod.snd (Prod.snd (Prod.snd (Prod.snd (Prod.snd (Prod.snd (Prod.snd (Prod.snd (Prod.snd (Prod.snd (Prod.snd (Prod.snd (Prod.snd (Prod.snd (Prod.snd a0))))))))))))))) && (Prod.fst (Prod.snd (Prod.snd (Prod.snd (Prod.snd (Prod.snd (Prod.snd (Prod.snd (Prod.snd (Prod.snd (Prod.snd (Prod.snd (Prod.snd (Prod.snd (Prod.snd (Prod.snd (Prod.snd r27)))))))))))))))) == Prod.fst (Prod.snd (Prod.snd (Prod.snd (Prod.snd (Prod.snd (Prod.snd (Prod.snd (Prod.snd (Prod.snd (Prod.snd (Prod.snd (Prod.snd (Prod.snd (Prod.snd (Prod.snd (Prod.snd a0)))))))))))))))) && true)))) && true)))))) fun v29 =>
                        (if v29 = true then
                          K false
                        else
                          xfoot_Parse a1 (fun r30 r31 =>
                            (if (!r31) = true then
                              (if r2 = true then
                                (lt (Prod.fst r30 == (0 : Int) && (Prod.fst (Prod.snd r30) == false && (ByteArray.toList (Prod.fst (Prod.snd (Prod.snd r30))) == ByteArray.toList (ByteArray.mk #[]) && true)) && (Prod.fst (Prod.snd (Prod.snd (Prod.snd r30))) == (0 : Int) && (Prod.fst (Prod.snd (Prod.snd (Prod.snd (Prod.snd r30)))) == false && (ByteArray.toList (Prod.fst (Prod.snd (Prod.snd (Prod.snd (Prod.snd (Prod.snd r30)))))) == ByteArray.toList (ByteArray.mk #[]) && true)) && (Prod.fst (Prod.snd (Prod.snd (Prod.snd (Prod.snd (Prod.snd (Prod.snd r30)))))) == false && (Prod.fst (Prod.snd (Prod.snd (Prod.snd (Prod.snd (Prod.snd (Prod.snd (Prod.snd r30))))))) == (0 : Int) && (Prod.fst (Prod.snd (Prod.snd (Prod.snd (Prod.snd (Prod.snd (Prod.snd (Prod.snd (Prod.snd r30)))))))) == (0 : Int) && (Prod.fst (Prod.snd (Prod.snd (Prod.snd (Prod.snd (Prod.snd (Prod.snd (Prod.snd (Prod.snd (Prod.snd r30))))))))) == (0 : Int) && (Prod.fst (Prod.snd (Prod.snd (Prod.snd (Prod.snd (Prod.snd (Prod.snd (Prod.snd (Prod.snd (Prod.snd (Prod.snd r30)))))))))) == (0 : Int) && (Prod.fst (Prod.snd (Prod.snd (Prod.snd (Prod.snd (Prod.snd (Prod.snd (Prod.snd (Prod.snd (Prod.snd (Prod.snd (Prod.snd r30))))))))))) == (0 : Int) && true)))) && (Prod.fst (Prod.snd (Prod.snd (Prod.snd (Prod.snd (Prod.snd (Prod.snd (Prod.snd (Prod.snd (Prod.snd (Prod.snd (Prod.snd (Prod.snd r30)))))))))))) == (0 : Int) && (Prod.fst (Prod.snd (Prod.snd (Prod.snd (Prod.snd (Prod.snd (Prod.snd (Prod.snd (Prod.snd (Prod.snd (Prod.snd (Prod.snd (Prod.snd (Prod.snd r30))))))))))))) == (0 : Int) && (Prod.fst (Prod.snd (Prod.snd (Prod.snd (Prod.snd (Prod.snd (Prod.snd (Prod.snd (Prod.snd (Prod.snd (Prod.snd (Prod.snd (Prod.snd (Prod.snd (Prod.snd r30)))))))))))))) == (0 : Int) && (Prod.fst (Prod.snd (Prod.snd (Prod.snd (Prod.snd (Prod.snd (Prod.snd (Prod.snd (Prod.snd (Prod.snd (Prod.snd (Prod.snd (Prod.snd (Prod.snd (Prod.snd (Prod.snd r30))))))))))))))) == (0 : Int) && (Prod.fst (Prod.snd (Prod.snd (Prod.snd (Prod.snd (Prod.snd (Prod.snd (Prod.snd (Prod.snd (Prod.snd (Prod.snd (Prod.snd (Prod.snd (Prod.snd (Prod.snd (Prod.snd (Prod.snd r30)))))))))))))))) == (0 : Int) && true)))) && true))))) fun v32 =>
                                K v32)
                              else
                                K false)
                            else
                              xfoot_Text r30 (fun r33 r34 =>
                                xfoot_Parse r33 (fun r35 r36 =>
                                  (if r2 = true then
                                    xfoot_Right r30 (fun r37 =>
                                      (if r37 = true then
                                        (if r34 = true then
                                          (if r36 = true then
                                            (lt (Prod.fst r35 == Prod.fst r30 && (Prod.fst (Prod.snd r35) == Prod.fst (Prod.snd r30) && (ByteArray.toList (Prod.fst (Prod.snd (Prod.snd r35))) == ByteArray.toList (Prod.fst (Prod.snd (Prod.snd r30))) && true)) && (Prod.fst (Prod.snd (Prod.snd (Prod.snd r35))) == Prod.fst (Prod.snd (Prod.snd (Prod.snd r30))) && (Prod.fst (Prod.snd (Prod.snd (Prod.snd (Prod.snd r35)))) == Prod.fst (Prod.snd (Prod.snd (Prod.snd (Prod.snd r30)))) && (ByteArray.toList (Prod.fst (Prod.snd (Prod.snd (Prod.snd (Prod.snd (Prod.snd r35)))))) == ByteArray.toList (Prod.fst (Prod.snd (Prod.snd (Prod.snd (Prod.snd (Prod.snd r30)))))) && true)) && (Prod.fst (Prod.snd (Prod.snd (Prod.snd (Prod.snd (Prod.snd (Prod.snd r35)))))) == Prod.fst (Prod.snd (Prod.snd (Prod.snd (Prod.snd (Prod.snd (Prod.snd r30)))))) && (Prod.fst (Prod.snd (Prod.snd (Prod.snd (Prod.snd (Prod.snd (Prod.snd (Prod.snd r35))))))) == Prod.fst (Prod.snd (Prod.snd (Prod.snd (Prod.snd (Prod.snd (Prod.snd (Prod.snd r30))))))) && (Prod.fst (Prod.snd (Prod.snd (Prod.snd (Prod.snd (Prod.snd (Prod.snd (Prod.snd (Prod.snd r35)))))))) == Prod.fst (Prod.snd (Prod.snd (Prod.snd (Prod.snd (Prod.snd (Prod.snd (Prod.snd (Prod.snd r30)))))))) && (Prod.fst (Prod.snd (Prod.snd (Prod.snd (Prod.snd (Prod.snd (Prod.snd (Prod.snd (Prod.snd (Prod.snd r35))))))))) == Prod.fst (Prod.snd (Prod.snd (Prod.snd (Prod.snd (Prod.snd (Prod.snd (Prod.snd (Prod.snd (Prod.snd r30))))))))) && (Prod.fst (Prod.snd (Prod.snd (Prod.snd (Prod.snd (Prod.snd (Prod.snd (Prod.snd (Prod.snd (Prod.snd (Prod.snd r35)))))))))) == Prod.fst (Prod.snd (Prod.snd (Prod.snd (Prod.snd (Prod.snd (Prod.snd (Prod.snd (Prod.snd (Prod.snd (Prod.snd r30)))))))))) && (Prod.fst (Prod.snd (Prod.snd (Prod.snd (Prod.snd (Prod.snd (Prod.snd (Prod.snd (Prod.snd (Prod.snd (Prod.snd (Prod.snd r35))))))))))) == Prod.fst (Prod.snd (Prod.snd (Prod.snd (Prod.snd (Prod.snd (Prod.snd (Prod.snd (Prod.snd (Prod.snd (Prod.snd (Prod.snd r30))))))))))) && true)))) && (Prod.fst (Prod.snd (Prod.snd (Prod.snd (Prod.snd (Prod.snd (Prod.snd (Prod.snd (Prod.snd (Prod.snd (Prod.snd (Prod.snd (Prod.snd r35)))))))))))) == Prod.fst (Prod.snd (Prod.snd (Prod.snd (Prod.snd (Prod.snd (Prod.snd (Prod.snd (Prod.snd (Prod.snd (Prod.snd (Prod.snd (Prod.snd r30)))))))))))) && (Prod.fst (Prod.snd (Prod.snd (Prod.snd (Prod.snd (Prod.snd (Prod.snd (Prod.snd (Prod.snd (Prod.snd (Prod.snd (Prod.snd (Prod.snd (Prod.snd r35))))))))))))) == Prod.fst (Prod.snd (Prod.snd (Prod.snd (Prod.snd (Prod.snd (Prod.snd (Prod.snd (Prod.snd (Prod.snd (Prod.snd (Prod.snd (Prod.snd (Prod.snd r30))))))))))))) && (Prod.fst (Prod.snd (Prod.snd (Prod.snd (Prod.snd (Prod.snd (Prod.snd (Prod.snd (Prod.snd (Prod.snd (Prod.snd (Prod.snd (Prod.snd (Prod.snd (Prod.snd r35)))))))))))))) == Prod.fst (Prod.snd (Prod.snd (Prod.snd (Prod.snd (Prod.snd (Prod.snd (Prod.snd (Prod.snd (Prod.snd (Prod.snd (Prod.snd (Prod.snd (Prod.snd (Prod.snd r30)))))))))))))) && (Prod.fst (Prod.snd (Prod.snd (Prod.snd (Prod.snd (Prod.snd (Prod.snd (Prod.snd (Prod.snd (Prod.snd (Prod.snd (Prod.snd (Prod.snd (Prod.snd (Prod.snd (Prod.snd r35))))))))))))))) == Prod.fst (Prod.snd (Prod.snd (Prod.snd (Prod.snd (Prod.snd (Prod.snd (Prod.snd (Prod.snd (Prod.snd (Prod.snd (Prod.snd (Prod.snd (Prod.snd (Prod.snd (Prod.snd r30))))))))))))))) && (Prod.fst (Prod.snd (Prod.snd (Prod.snd (Prod.snd (Prod.snd (Prod.snd (Prod.snd (Prod.snd (Prod.snd (Prod.snd (Prod.snd (Prod.snd (Prod.snd (Prod.snd (Prod.snd (Prod.snd r35)))))))))))))))) == Prod.fst (Prod.snd (Prod.snd (Prod.snd (Prod.snd (Prod.snd (Prod.snd (Prod.snd (Prod.snd (Prod.snd (Prod.snd (Prod.snd (Prod.snd (Prod.snd (Prod.snd (Prod.snd (Prod.snd r30)))))))))))))))) && true)))) && true))))) fun v38 =>
                                            K v38)
                                          else
                                            K false)
                                        else
                                          K false)
                                      else
                                        K false))
                                  else
                                    K false)))))))))
                  else
                    xfoot_Parse a1 (fun r39 r40 =>
                      (if (!r40) = true then
                        (if r2 = true then
                          (lt (Prod.fst r39 == (0 : Int) && (Prod.fst (Prod.snd r39) == false && (ByteArray.toList (Prod.fst (Prod.snd (Prod.snd r39))) == ByteArray.toList (ByteArray.mk #[]) && true)) && (Prod.fst (Prod.snd (Prod.snd (Prod.snd r39))) == (0 : Int) && (Prod.fst (Prod.snd (Prod.snd (Prod.snd (Prod.snd r39)))) == false && (ByteArray.toList (Prod.fst (Prod.snd (Prod.snd (Prod.snd (Prod.snd (Prod.snd r39)))))) == ByteArray.toList (ByteArray.mk #[]) && true)) && (Prod.fst (Prod.snd (Prod.snd (Prod.snd (Prod.snd (Prod.snd (Prod.snd r39)))))) == false && (Prod.fst (Prod.snd (Prod.snd (Prod.snd (Prod.snd (Prod.snd (Prod.snd (Prod.snd r39))))))) == (0 : Int) && (Prod.fst (Prod.snd (Prod.snd (Prod.snd (Prod.snd (Prod.snd (Prod.snd (Prod.snd (Prod.snd r39)))))))) == (0 : Int) && (Prod.fst (Prod.snd (Prod.snd (Prod.snd (Prod.snd (Prod.snd (Prod.snd (Prod.snd (Prod.snd (Prod.snd r39))))))))) == (0 : Int) && (Prod.fst (Prod.snd (Prod.snd (Prod.snd (Prod.snd (Prod.snd (Prod.snd (Prod.snd (Prod.snd (Prod.snd (Prod.snd r39)))))))))) == (0 : Int) && (Prod.fst (Prod.snd (Prod.snd (Prod.snd (Prod.snd (Prod.snd (Prod.snd (Prod.snd (Prod.snd (Prod.snd (Prod.snd (Prod.snd r39))))))))))) == (0 : Int) && true)))) && (Prod.fst (Prod.snd (Prod.snd (Prod.snd (Prod.snd (Prod.snd (Prod.snd (Prod.snd (Prod.snd (Prod.snd (Prod.snd (Prod.snd (Prod.snd r39)))))))))))) == (0 : Int) && (Prod.fst (Prod.snd (Prod.snd (Prod.snd (Prod.snd (Prod.snd (Prod.snd (Prod.snd (Prod.snd (Prod.snd (Prod.snd (Prod.snd (Prod.snd (Prod.snd r39))))))))))))) == (0 : Int) && (Prod.fst (Prod.snd (Prod.snd (Prod.snd (Prod.snd (Prod.snd (Prod.snd (Prod.snd (Prod.snd (Prod.snd (Prod.snd (Prod.snd (Prod.snd (Prod.snd (Prod.snd r39)))))))))))))) == (0 : Int) && (Prod.fst (Prod.snd (Prod.snd (Prod.snd (Prod.snd (Prod.snd (Prod.snd (Prod.snd (Prod.snd (Prod.snd (Prod.snd (Prod.snd (Prod.snd (Prod.snd (Prod.snd (Prod.snd r39))))))))))))))) == (0 : Int) && (Prod.fst (Prod.snd (Prod.snd (Prod.snd (Prod.snd (Prod.snd (Prod.snd (Prod.snd (Prod.snd (Prod.snd (Prod.snd (Prod.snd (Prod.snd (Prod.snd (Prod.snd (Prod.snd (Prod.snd r39)))))))))))))))) == (0 : Int) && true)))) && true))))) fun v41 =>
                          K v41)
                        else
                          K false)
                      else
                        xfoot_Text r39 (fun r42 r43 =>
                          xfoot_Parse r42 (fun r44 r45 =>
                            (if r2 = true then
                              xfoot_Right r39 (fun r46 =>
                                (if r46 = true then
                                  (if r43 = true then
                                    (if r45 = true then
                                      (lt (Prod.fst r44 == Prod.fst r39 && (Prod.fst (Prod.snd r44) == Prod.fst (Prod.snd r39) && (ByteArray.toList (Prod.fst (Prod.snd (Prod.snd r44))) == ByteArray.toList (Prod.fst (Prod.snd (Prod.snd r39))) && true)) && (Prod.fst (Prod.snd (Prod.snd (Prod.snd r44))) == Prod.fst (Prod.snd (Prod.snd (Prod.snd r39))) && (Prod.fst (Prod.snd (Prod.snd (Prod.snd (Prod.snd r44)))) == Prod.fst (Prod.snd (Prod.snd (Prod.snd (Prod.snd r39)))) && (ByteArray.toList (Prod.fst (Prod.snd (Prod.snd (Prod.snd (Prod.snd (Prod.snd r44)))))) == ByteArray.toList (Prod.fst (Prod.snd (Prod.snd (Prod.snd (Prod.snd (Prod.snd r39)))))) && true)) && (Prod.fst (Prod.snd (Prod.snd (Prod.snd (Prod.snd (Prod.snd (Prod.snd r44)))))) == Prod.fst (Prod.snd (Prod.snd (Prod.snd (Prod.snd (Prod.snd (Prod.snd r39)))))) && (Prod.fst (Prod.snd (Prod.snd (Prod.snd (Prod.snd (Prod.snd (Prod.snd (Prod.snd r44))))))) == Prod.fst (Prod.snd (Prod.snd (Prod.snd (Prod.snd (Prod.snd (Prod.snd (Prod.snd r39))))))) && (Prod.fst (Prod.snd (Prod.snd (Prod.snd (Prod.snd (Prod.snd (Prod.snd (Prod.snd (Prod.snd r44)))))))) == Prod.fst (Prod.snd (Prod.snd (Prod.snd (Prod.snd (Prod.snd (Prod.snd (Prod.snd (Prod.snd r39)))))))) && (Prod.fst (Prod.snd (Prod.snd (Prod.snd (Prod.snd (Prod.snd (Prod.snd (Prod.snd (Prod.snd (Prod.snd r44))))))))) == Prod.fst (Prod.snd (Prod.snd (Prod.snd (Prod.snd (Prod.snd (Prod.snd (Prod.snd (Prod.snd (Prod.snd r39))))))))) && (Prod.fst (Prod.snd (Prod.snd (Prod.snd (Prod.snd (Prod.snd (Prod.snd (Prod.snd (Prod.snd (Prod.snd (Prod.snd r44)))))))))) == Prod.fst (Prod.snd (Prod.snd (Prod.snd (Prod.snd (Prod.snd (Prod.snd (Prod.snd (Prod.snd (Prod.snd (Prod.snd r39)))))))))) && (Prod.fst (Prod.snd (Prod.snd (Prod.snd (Prod.snd (Prod.snd (Prod.snd (Prod.snd (Prod.snd (Prod.snd (Prod.snd (Prod.snd r44))))))))))) == Prod.fst (Prod.snd (Prod.snd (Prod.snd (Prod.snd (Prod.snd (Prod.snd (Prod.snd (Prod.snd (Prod.snd (Prod.snd (Prod.snd r39))))))))))) && true)))) && (Prod.fst (Prod.snd (Prod.snd (Prod.snd (Prod.snd (Prod.snd (Prod.snd (Prod.snd (Prod.snd (Prod.snd (Prod.snd (Prod.snd (Prod.snd r44)))))))))))) == Prod.fst (Prod.snd (Prod.snd (Prod.snd (Prod.snd (Prod.snd (Prod.snd (Prod.snd (Prod.snd (Prod.snd (Prod.snd (Prod.snd (Prod.snd r39)))))))))))) && (Prod.fst (Prod.snd (Prod.snd (Prod.snd (Prod.snd (Prod.snd (Prod.snd (Prod.snd (Prod.snd (Prod.snd (Prod.snd (Prod.snd (Prod.snd (Prod.snd r44))))))))))))) == Prod.fst (Prod.snd (Prod.snd (Prod.snd (Prod.snd (Prod.snd (Prod.snd (Prod.snd (Prod.snd (Prod.snd (Prod.snd (Prod.snd (Prod.snd (Prod.snd r39))))))))))))) && (Prod.fst (Prod.snd (Prod.snd (Prod.snd (Prod.snd (Prod.snd (Prod.snd (Prod.snd (Prod.snd (Prod.snd (Prod.snd (Prod.snd (Prod.snd (Prod.snd (Prod.snd r44)))))))))))))) == Prod.fst (Prod.snd (Prod.snd (Prod.snd (Prod.snd (Prod.snd (Prod.snd (Prod.snd (Prod.snd (Prod.snd (Prod.snd (Prod.snd (Prod.snd (Prod.snd (Prod.snd r39)))))))))))))) && (Prod.fst (Prod.snd (Prod.snd (Prod.snd (Prod.snd (Prod.snd (Prod.snd (Prod.snd (Prod.snd (Prod.snd (Prod.snd (Prod.snd (Prod.snd (Prod.snd (Prod.snd (Prod.snd r44))))))))))))))) == Prod.fst (Prod.snd (Prod.snd (Prod.snd (Prod.snd (Prod.snd (Prod.snd (Prod.snd (Prod.snd (Prod.snd (Prod.snd (Prod.snd (Prod.snd (Prod.snd (Prod.snd (Prod.snd r39))))))))))))))) && (Prod.fst (Prod.snd (Prod.snd (Prod.snd (Prod.snd (Prod.snd (Prod.snd (Prod.snd (Prod.snd (Prod.snd (Prod.snd (Prod.snd (Prod.snd (Prod.snd (Prod.snd (Prod.snd (Prod.snd r44)))))))))))))))) == Prod.fst (Prod.snd (Prod.snd (Prod.snd (Prod.snd (Prod.snd (Prod.snd (Prod.snd (Prod.snd (Prod.snd (Prod.snd (Prod.snd (Prod.snd (Prod.snd (Prod.snd (Prod.snd (Prod.snd r39)))))))))))))))) && true)))) && true))))) fun v47 =>
                                      K v47)
                                    else
                                      K false)
                                  else
                                    K false)
                                else
                                  K false))
                            else
                              K false))))))))))))))
def Xepactlaw18_FootBack (a0 : Int × Bool × ByteArray × Int × Bool × ByteArray × Bool × Int × Int × Int × Int × Int × Int × Int × Int × Int × Int × Unit) (a1 : ByteArray) (K : (Bool) → Prop) : Prop := Yepactlaw18_FootBack Xepactlaw18_small Xfoot_Text Xfoot_Right Xfoot_Parse a0 a1 K
def Jepactlaw18_FootBack (X : (Int × Bool × ByteArray × Int × Bool × ByteArray × Bool × Int × Int × Int × Int × Int × Int × Int × Int × Int × Int × Unit) → (ByteArray) → ((Bool) → Prop) → Prop) : Inst := ⟨3, (.cons (.agg (.cons (.int .i64) (.cons .bool (.cons .str (.cons (.int .i64) (.cons .bool (.cons .str (.cons .bool (.cons (.int .i64) (.cons (.int .i64) (.cons (.int .i64) (.cons (.int .i64) (.cons (.int .i64) (.cons (.int .i64) (.cons (.int .i64) (.cons (.int .i64) (.cons (.int .i64) (.cons (.int .i64) .nil)))))))))))))))))) (.cons .str .nil)), .nil, (.cons .bool .nil), .nil, fun x y K => X x.1 x.2.1 (fun u0 => K (u0, ()) ())⟩
def Iepactlaw18_FootBack : Inst := Jepactlaw18_FootBack Xepactlaw18_FootBack
theorem Eepactlaw18_FootBack (xepactlaw18_small : ((Bool) → Prop) → Prop) (xfoot_Text : (Int × Bool × ByteArray × Int × Bool × ByteArray × Bool × Int × Int × Int × Int × Int × Int × Int × Int × Int × Int × Unit) → ((ByteArray) → (Bool) → Prop) → Prop) (xfoot_Right : (Int × Bool × ByteArray × Int × Bool × ByteArray × Bool × Int × Int × Int × Int × Int × Int × Int × Int × Int × Int × Unit) → ((Bool) → Prop) → Prop) (xfoot_Parse : (ByteArray) → ((Int × Bool × ByteArray × Int × Bool × ByteArray × Bool × Int × Int × Int × Int × Int × Int × Int × Int × Int × Int × Unit) → (Bool) → Prop) → Prop) (x : PL.T (.cons (.agg (.cons (.int .i64) (.cons .bool (.cons .str (.cons (.int .i64) (.cons .bool (.cons .str (.cons .bool (.cons (.int .i64) (.cons (.int .i64) (.cons (.int .i64) (.cons (.int .i64) (.cons (.int .i64) (.cons (.int .i64) (.cons (.int .i64) (.cons (.int .i64) (.cons (.int .i64) (.cons (.int .i64) .nil)))))))))))))))))) (.cons .str .nil))) (y : PH.T .nil) (K : PL.T (.cons .bool .nil) → PH.T .nil → Prop) : Yepactlaw18_FootBack xepactlaw18_small xfoot_Text xfoot_Right xfoot_Parse x.1 x.2.1 (fun u0 => K (u0, ()) ()) = bodyC (envP Tryd.prog 104 gives ⟨tabC [Jepactlaw18_small xepactlaw18_small, Jfoot_Text xfoot_Text, Jfoot_Right xfoot_Right, Jfoot_Parse xfoot_Parse], tabL []⟩) Tryd.f3 (Tryd.f3.body.getD .skip) (PL.enc (.cons (.agg (.cons (.int .i64) (.cons .bool (.cons .str (.cons (.int .i64) (.cons .bool (.cons .str (.cons .bool (.cons (.int .i64) (.cons (.int .i64) (.cons (.int .i64) (.cons (.int .i64) (.cons (.int .i64) (.cons (.int .i64) (.cons (.int .i64) (.cons (.int .i64) (.cons (.int .i64) (.cons (.int .i64) .nil)))))))))))))))))) (.cons .str .nil)) x) (PH.enc .nil y) (resK (.cons .bool .nil) .nil K) := by kernel_rfl
theorem Iepactlaw18_FootBack_ok : InstOk Tryd.prog G.1 Iepactlaw18_FootBack := inst_ok (gives := gives) (is := [Iepactlaw18_small, Ifoot_Text, Ifoot_Right, Ifoot_Parse]) [] (okCons Iepactlaw18_small_ok (okCons Ifoot_Text_ok (okCons Ifoot_Right_ok (okCons Ifoot_Parse_ok okNil)))) 104 follows Tryd.func3 (by kernel_rfl) (fun x => by kernel_rfl) (fun x y K => Eepactlaw18_FootBack Xepactlaw18_small Xfoot_Text Xfoot_Right Xfoot_Parse x y K)

/- epact/epactlaw18.FootHolds -/
def Yepactlaw18_FootHolds (xepactlaw18_small : ((Bool) → Prop) → Prop) (xfoot_Right : (Int × Bool × ByteArray × Int × Bool × ByteArray × Bool × Int × Int × Int × Int × Int × Int × Int × Int × Int × Int × Unit) → ((Bool) → Prop) → Prop) (xfoot_Lookup : (Int × Bool × ByteArray × Int × Bool × ByteArray × Bool × Int × Int × Int × Int × Int × Int × Int × Int × Int × Int × Unit) → (Int) → ((Int × Bool × ByteArray × Unit) → Prop) → Prop) (xnum_Div : (Int) → (Int) → ((Int) → (Int) → (Bool) → Prop) → Prop) (xday_Date : (Int) → ((Int) → (Int) → (Int) → (Bool) → Prop) → Prop) (xfoot_Span : (Int × Bool × ByteArray × Int × Bool × ByteArray × Bool × Int × Int × Int × Int × Int × Int × Int × Int × Int × Int × Unit) → (Int) → ((Int) → (Int) → (Bool) → Prop) → Prop) (a0 : Int × Bool × ByteArray × Int × Bool × ByteArray × Bool × Int × Int × Int × Int × Int × Int × Int × Int × Int × Int × Unit) (a1 : Int) (K : (Bool) → Prop) : Prop :=
  xepactlaw18_small (fun r2 =>
    (if decide ((↑(ByteArray.size (Prod.fst (Prod.snd (Prod.snd a0)))) : Int) > (100 : Int)) = true then
      K r2
    else
      (if decide ((↑(ByteArray.size (Prod.fst (Prod.snd (Prod.snd (Prod.snd (Prod.snd (Prod.snd a0))))))) : Int) > (100 : Int)) = true then
        K r2
      else
        xfoot_Right a0 (fun r3 =>
          (if (!r3) = true then
            K r2
          else
            (if decide (a1 < (-137438953472 : Int)) = true then
              K r2
            else
              (if decide (a1 > (137438953472 : Int)) = true then
                K r2
              else
                xfoot_Lookup a0 a1 (fun r4 =>
                  xfoot_Lookup a0 (w64 (a1 + (1 : Int))) (fun r5 =>
                    (lt (!(Prod.fst r4 == Prod.fst a0 && (Prod.fst (Prod.snd r4) == Prod.fst (Prod.snd a0) && (ByteArray.toList (Prod.fst (Prod.snd (Prod.snd r4))) == ByteArray.toList (Prod.fst (Prod.snd (Prod.snd a0))) && true)))) fun v6 =>
                    (if v6 = true then
                      (lt (!(Prod.fst r4 == Prod.fst (Prod.snd (Prod.snd (Prod.snd a0))) && (Prod.fst (Prod.snd r4) == Prod.fst (Prod.snd (Prod.snd (Prod.snd (Prod.snd a0)))) && (ByteArray.toList (Prod.fst (Prod.snd (Prod.snd r4))) == ByteArray.toList (Prod.fst (Prod.snd (Prod.snd (Prod.snd (Prod.snd (Prod.snd a0)))))) && true)))) fun v7 =>
                      (if v7 = true then
                        K false
                      else
                        (if (!Prod.fst (Prod.snd (Prod.snd (Prod.snd (Prod.snd (Prod.snd (Prod.snd a0))))))) = true then
                          K false
                        else
                          (lt (Prod.fst r4 == Prod.fst r5 && (Prod.fst (Prod.snd r4) == Prod.fst (Prod.snd r5) && (ByteArray.toList (Prod.fst (Prod.snd (Prod.snd r4))) == ByteArray.toList (Prod.fst (Prod.snd (Prod.snd r5))) && true))) fun v8 =>
                          (if v8 = true then
                            K r2
                          else
                            (lt (w64 (w64 (a1 + (1 : Int)) + Prod.fst a0)) fun v9 =>
                            xnum_Div v9 (86400 : Int) (fun r10 r11 r12 =>
                              xday_Date r10 (fun r13 r14 r15 r16 =>
                                xfoot_Span a0 r13 (fun r17 r18 r19 =>
                                  (if (r14 == (1 : Int)) = true then
                                    (if (r15 == (1 : Int)) = true then
                                      (lt (w64 (w64 (a1 + (1 : Int)) + Prod.fst a0)) fun v20 =>
                                      (if r2 = true then
                                        (if Prod.fst (Prod.snd (Prod.snd (Prod.snd (Prod.snd (Prod.snd (Prod.snd a0)))))) = true then
                                          (if r16 = true then
                                            (if r19 = true then
                                              (if (w64 (a1 + (1 : Int)) == r17) = true then
                                                K true
                                              else
                                                (if (w64 (a1 + (1 : Int)) == r18) = true then
                                                  K true
                                                else
                                                  (if (v20 == w64 ((86400 : Int) * r10)) = true then
                                                    K true
                                                  else
                                                    (if (!r16) = true then
                                                      K (r10 == (2932897 : Int))
                                                    else
                                                      K false))))
                                            else
                                              (if (v20 == w64 ((86400 : Int) * r10)) = true then
                                                K true
                                              else
                                                (if (!r16) = true then
                                                  K (r10 == (2932897 : Int))
                                                else
                                                  K false)))
                                          else
                                            (if (v20 == w64 ((86400 : Int) * r10)) = true then
                                              K true
                                            else
                                              (if (!r16) = true then
                                                K (r10 == (2932897 : Int))
                                              else
                                                K false)))
                                        else
                                          K false)
                                      else
                                        K false))
                                    else
                                      (if r2 = true then
                                        (if Prod.fst (Prod.snd (Prod.snd (Prod.snd (Prod.snd (Prod.snd (Prod.snd a0)))))) = true then
                                          (if r16 = true then
                                            (if r19 = true then
                                              (if (w64 (a1 + (1 : Int)) == r17) = true then
                                                K true
                                              else
                                                (if (w64 (a1 + (1 : Int)) == r18) = true then
                                                  K true
                                                else
                                                  (if (!r16) = true then
                                                    K (r10 == (2932897 : Int))
                                                  else
                                                    K false)))
                                            else
                                              (if (!r16) = true then
                                                K (r10 == (2932897 : Int))
                                              else
                                                K false))
                                          else
                                            (if (!r16) = true then
                                              K (r10 == (2932897 : Int))
                                            else
                                              K false))
                                        else
                                          K false)
                                      else
                                        K false))
                                  else
                                    (if r2 = true then
                                      (if Prod.fst (Prod.snd (Prod.snd (Prod.snd (Prod.snd (Prod.snd (Prod.snd a0)))))) = true then
                                        (if r16 = true then
                                          (if r19 = true then
                                            (if (w64 (a1 + (1 : Int)) == r17) = true then
                                              K true
                                            else
                                              (if (w64 (a1 + (1 : Int)) == r18) = true then
                                                K true
                                              else
                                                (if (!r16) = true then
                                                  K (r10 == (2932897 : Int))
                                                else
                                                  K false)))
                                          else
                                            (if (!r16) = true then
                                              K (r10 == (2932897 : Int))
                                            else
                                              K false))
                                        else
                                          (if (!r16) = true then
                                            K (r10 == (2932897 : Int))
                                          else
                                            K false))
                                      else
                                        K false)
                                    else
                                      K false)))))))))))
                    else
                      (lt (Prod.fst r4 == Prod.fst r5 && (Prod.fst (Prod.snd r4) == Prod.fst (Prod.snd r5) && (ByteArray.toList (Prod.fst (Prod.snd (Prod.snd r4))) == ByteArray.toList (Prod.fst (Prod.snd (Prod.snd r5))) && true))) fun v21 =>
                      (if v21 = true then
                        K r2
                      else
                        (lt (w64 (w64 (a1 + (1 : Int)) + Prod.fst a0)) fun v22 =>
                        xnum_Div v22 (86400 : Int) (fun r23 r24 r25 =>
                          xday_Date r23 (fun r26 r27 r28 r29 =>
                            xfoot_Span a0 r26 (fun r30 r31 r32 =>
                              (if (r27 == (1 : Int)) = true then
                                (if (r28 == (1 : Int)) = true then
                                  (lt (w64 (w64 (a1 + (1 : Int)) + Prod.fst a0)) fun v33 =>
                                  (if r2 = true then
                                    (if Prod.fst (Prod.snd (Prod.snd (Prod.snd (Prod.snd (Prod.snd (Prod.snd a0)))))) = true then
                                      (if r29 = true then
                                        (if r32 = true then
                                          (if (w64 (a1 + (1 : Int)) == r30) = true then
                                            K true
                                          else
                                            (if (w64 (a1 + (1 : Int)) == r31) = true then
                                              K true
                                            else
                                              (if (v33 == w64 ((86400 : Int) * r23)) = true then
                                                K true
                                              else
                                                (if (!r29) = true then
                                                  K (r23 == (2932897 : Int))
                                                else
                                                  K false))))
                                        else
                                          (if (v33 == w64 ((86400 : Int) * r23)) = true then
                                            K true
                                          else
                                            (if (!r29) = true then
                                              K (r23 == (2932897 : Int))
                                            else
                                              K false)))
                                      else
                                        (if (v33 == w64 ((86400 : Int) * r23)) = true then
                                          K true
                                        else
                                          (if (!r29) = true then
                                            K (r23 == (2932897 : Int))
                                          else
                                            K false)))
                                    else
                                      K false)
                                  else
                                    K false))
                                else
                                  (if r2 = true then
                                    (if Prod.fst (Prod.snd (Prod.snd (Prod.snd (Prod.snd (Prod.snd (Prod.snd a0)))))) = true then
                                      (if r29 = true then
                                        (if r32 = true then
                                          (if (w64 (a1 + (1 : Int)) == r30) = true then
                                            K true
                                          else
                                            (if (w64 (a1 + (1 : Int)) == r31) = true then
                                              K true
                                            else
                                              (if (!r29) = true then
                                                K (r23 == (2932897 : Int))
                                              else
                                                K false)))
                                        else
                                          (if (!r29) = true then
                                            K (r23 == (2932897 : Int))
                                          else
                                            K false))
                                      else
                                        (if (!r29) = true then
                                          K (r23 == (2932897 : Int))
                                        else
                                          K false))
                                    else
                                      K false)
                                  else
                                    K false))
                              else
                                (if r2 = true then
                                  (if Prod.fst (Prod.snd (Prod.snd (Prod.snd (Prod.snd (Prod.snd (Prod.snd a0)))))) = true then
                                    (if r29 = true then
                                      (if r32 = true then
                                        (if (w64 (a1 + (1 : Int)) == r30) = true then
                                          K true
                                        else
                                          (if (w64 (a1 + (1 : Int)) == r31) = true then
                                            K true
                                          else
                                            (if (!r29) = true then
                                              K (r23 == (2932897 : Int))
                                            else
                                              K false)))
                                      else
                                        (if (!r29) = true then
                                          K (r23 == (2932897 : Int))
                                        else
                                          K false))
                                    else
                                      (if (!r29) = true then
                                        K (r23 == (2932897 : Int))
                                      else
                                        K false))
                                  else
                                    K false)
                                else
                                  K false)))))))))))))))))))
def Xepactlaw18_FootHolds (a0 : Int × Bool × ByteArray × Int × Bool × ByteArray × Bool × Int × Int × Int × Int × Int × Int × Int × Int × Int × Int × Unit) (a1 : Int) (K : (Bool) → Prop) : Prop := Yepactlaw18_FootHolds Xepactlaw18_small Xfoot_Right Xfoot_Lookup Xnum_Div Xday_Date Xfoot_Span a0 a1 K
def Jepactlaw18_FootHolds (X : (Int × Bool × ByteArray × Int × Bool × ByteArray × Bool × Int × Int × Int × Int × Int × Int × Int × Int × Int × Int × Unit) → (Int) → ((Bool) → Prop) → Prop) : Inst := ⟨4, (.cons (.agg (.cons (.int .i64) (.cons .bool (.cons .str (.cons (.int .i64) (.cons .bool (.cons .str (.cons .bool (.cons (.int .i64) (.cons (.int .i64) (.cons (.int .i64) (.cons (.int .i64) (.cons (.int .i64) (.cons (.int .i64) (.cons (.int .i64) (.cons (.int .i64) (.cons (.int .i64) (.cons (.int .i64) .nil)))))))))))))))))) (.cons (.int .i64) .nil)), .nil, (.cons .bool .nil), .nil, fun x y K => X x.1 x.2.1 (fun u0 => K (u0, ()) ())⟩
def Iepactlaw18_FootHolds : Inst := Jepactlaw18_FootHolds Xepactlaw18_FootHolds
theorem Eepactlaw18_FootHolds (xepactlaw18_small : ((Bool) → Prop) → Prop) (xfoot_Right : (Int × Bool × ByteArray × Int × Bool × ByteArray × Bool × Int × Int × Int × Int × Int × Int × Int × Int × Int × Int × Unit) → ((Bool) → Prop) → Prop) (xfoot_Lookup : (Int × Bool × ByteArray × Int × Bool × ByteArray × Bool × Int × Int × Int × Int × Int × Int × Int × Int × Int × Int × Unit) → (Int) → ((Int × Bool × ByteArray × Unit) → Prop) → Prop) (xnum_Div : (Int) → (Int) → ((Int) → (Int) → (Bool) → Prop) → Prop) (xday_Date : (Int) → ((Int) → (Int) → (Int) → (Bool) → Prop) → Prop) (xfoot_Span : (Int × Bool × ByteArray × Int × Bool × ByteArray × Bool × Int × Int × Int × Int × Int × Int × Int × Int × Int × Int × Unit) → (Int) → ((Int) → (Int) → (Bool) → Prop) → Prop) (x : PL.T (.cons (.agg (.cons (.int .i64) (.cons .bool (.cons .str (.cons (.int .i64) (.cons .bool (.cons .str (.cons .bool (.cons (.int .i64) (.cons (.int .i64) (.cons (.int .i64) (.cons (.int .i64) (.cons (.int .i64) (.cons (.int .i64) (.cons (.int .i64) (.cons (.int .i64) (.cons (.int .i64) (.cons (.int .i64) .nil)))))))))))))))))) (.cons (.int .i64) .nil))) (y : PH.T .nil) (K : PL.T (.cons .bool .nil) → PH.T .nil → Prop) : Yepactlaw18_FootHolds xepactlaw18_small xfoot_Right xfoot_Lookup xnum_Div xday_Date xfoot_Span x.1 x.2.1 (fun u0 => K (u0, ()) ()) = bodyC (envP Tryd.prog 148 gives ⟨tabC [Jepactlaw18_small xepactlaw18_small, Jfoot_Right xfoot_Right, Jfoot_Lookup xfoot_Lookup, Jnum_Div xnum_Div, Jday_Date xday_Date, Jfoot_Span xfoot_Span], tabL []⟩) Tryd.f4 (Tryd.f4.body.getD .skip) (PL.enc (.cons (.agg (.cons (.int .i64) (.cons .bool (.cons .str (.cons (.int .i64) (.cons .bool (.cons .str (.cons .bool (.cons (.int .i64) (.cons (.int .i64) (.cons (.int .i64) (.cons (.int .i64) (.cons (.int .i64) (.cons (.int .i64) (.cons (.int .i64) (.cons (.int .i64) (.cons (.int .i64) (.cons (.int .i64) .nil)))))))))))))))))) (.cons (.int .i64) .nil)) x) (PH.enc .nil y) (resK (.cons .bool .nil) .nil K) := by kernel_rfl
theorem Iepactlaw18_FootHolds_ok : InstOk Tryd.prog G.1 Iepactlaw18_FootHolds := inst_ok (gives := gives) (is := [Iepactlaw18_small, Ifoot_Right, Ifoot_Lookup, Inum_Div, Iday_Date, Ifoot_Span]) [] (okCons Iepactlaw18_small_ok (okCons Ifoot_Right_ok (okCons Ifoot_Lookup_ok (okCons Inum_Div_ok (okCons Iday_Date_ok (okCons Ifoot_Span_ok okNil)))))) 148 follows Tryd.func4 (by kernel_rfl) (fun x => by kernel_rfl) (fun x y K => Eepactlaw18_FootHolds Xepactlaw18_small Xfoot_Right Xfoot_Lookup Xnum_Div Xday_Date Xfoot_Span x y K)

/- epact/epactlaw18.FootSpans -/
def Yepactlaw18_FootSpans (xepactlaw18_small : ((Bool) → Prop) → Prop) (xfoot_Right : (Int × Bool × ByteArray × Int × Bool × ByteArray × Bool × Int × Int × Int × Int × Int × Int × Int × Int × Int × Int × Unit) → ((Bool) → Prop) → Prop) (xfoot_Span : (Int × Bool × ByteArray × Int × Bool × ByteArray × Bool × Int × Int × Int × Int × Int × Int × Int × Int × Int × Int × Unit) → (Int) → ((Int) → (Int) → (Bool) → Prop) → Prop) (xday_Number : (Int) → (Int) → (Int) → ((Int) → (Bool) → Prop) → Prop) (xfoot_Lookup : (Int × Bool × ByteArray × Int × Bool × ByteArray × Bool × Int × Int × Int × Int × Int × Int × Int × Int × Int × Int × Unit) → (Int) → ((Int × Bool × ByteArray × Unit) → Prop) → Prop) (a0 : Int × Bool × ByteArray × Int × Bool × ByteArray × Bool × Int × Int × Int × Int × Int × Int × Int × Int × Int × Int × Unit) (a1 : Int) (a2 : Int) (K : (Bool) → Prop) : Prop :=
  xepactlaw18_small (fun r3 =>
    (if decide ((↑(ByteArray.size (Prod.fst (Prod.snd (Prod.snd a0)))) : Int) > (100 : Int)) = true then
      K r3
    else
      (if decide ((↑(ByteArray.size (Prod.fst (Prod.snd (Prod.snd (Prod.snd (Prod.snd (Prod.snd a0))))))) : Int) > (100 : Int)) = true then
        K r3
      else
        xfoot_Right a0 (fun r4 =>
          (if (!r4) = true then
            K r3
          else
            (if decide (a2 < (0 : Int)) = true then
              K r3
            else
              (if decide (a2 ≥ (31536000 : Int)) = true then
                K r3
              else
                xfoot_Span a0 a1 (fun r5 r6 r7 =>
                  xday_Number a1 (1 : Int) (1 : Int) (fun r8 r9 =>
                    (if (!r7) = true then
                      (if r3 = true then
                        (if (r5 == (0 : Int)) = true then
                          (if (r6 == (0 : Int)) = true then
                            (if (!Prod.fst (Prod.snd (Prod.snd (Prod.snd (Prod.snd (Prod.snd (Prod.snd a0))))))) = true then
                              K true
                            else
                              K !r9)
                          else
                            K false)
                        else
                          K false)
                      else
                        K false)
                    else
                      (lt (w64 (w64 ((86400 : Int) * r8) - Prod.fst a0)) fun v10 =>
                      (if decide (w64 (v10 + a2) ≥ r5) = true then
                        (if decide (r5 ≥ r6) = true then
                          (if decide (w64 (v10 + a2) ≥ r5) = true then
                            xfoot_Lookup a0 (w64 (v10 + a2)) (fun r11 =>
                              (if r3 = true then
                                (if r9 = true then
                                  (lt (Prod.fst r11 == Prod.fst (Prod.snd (Prod.snd (Prod.snd a0))) && (Prod.fst (Prod.snd r11) == Prod.fst (Prod.snd (Prod.snd (Prod.snd (Prod.snd a0)))) && (ByteArray.toList (Prod.fst (Prod.snd (Prod.snd r11))) == ByteArray.toList (Prod.fst (Prod.snd (Prod.snd (Prod.snd (Prod.snd (Prod.snd a0)))))) && true))) fun v12 =>
                                  (if v12 = true then
                                    K true
                                  else
                                    K false))
                                else
                                  K false)
                              else
                                K false))
                          else
                            xfoot_Lookup a0 (w64 (v10 + a2)) (fun r13 =>
                              (if r3 = true then
                                (if r9 = true then
                                  (if decide (w64 (v10 + a2) < r6) = true then
                                    (lt (Prod.fst r13 == Prod.fst (Prod.snd (Prod.snd (Prod.snd a0))) && (Prod.fst (Prod.snd r13) == Prod.fst (Prod.snd (Prod.snd (Prod.snd (Prod.snd a0)))) && (ByteArray.toList (Prod.fst (Prod.snd (Prod.snd r13))) == ByteArray.toList (Prod.fst (Prod.snd (Prod.snd (Prod.snd (Prod.snd (Prod.snd a0)))))) && true))) fun v14 =>
                                    (if v14 = true then
                                      K true
                                    else
                                      (if (!decide (w64 (v10 + a2) < r6)) = true then
                                        (lt (Prod.fst r13 == Prod.fst a0 && (Prod.fst (Prod.snd r13) == Prod.fst (Prod.snd a0) && (ByteArray.toList (Prod.fst (Prod.snd (Prod.snd r13))) == ByteArray.toList (Prod.fst (Prod.snd (Prod.snd a0))) && true))) fun v15 =>
                                        K v15)
                                      else
                                        K false)))
                                  else
                                    (if (!decide (w64 (v10 + a2) < r6)) = true then
                                      (lt (Prod.fst r13 == Prod.fst a0 && (Prod.fst (Prod.snd r13) == Prod.fst (Prod.snd a0) && (ByteArray.toList (Prod.fst (Prod.snd (Prod.snd r13))) == ByteArray.toList (Prod.fst (Prod.snd (Prod.snd a0))) && true))) fun v16 =>
                                      K v16)
                                    else
                                      K false))
                                else
                                  K false)
                              else
                                K false)))
                        else
                          xfoot_Lookup a0 (w64 (v10 + a2)) (fun r17 =>
                            (if r3 = true then
                              (if r9 = true then
                                (if decide (w64 (v10 + a2) < r6) = true then
                                  (lt (Prod.fst r17 == Prod.fst (Prod.snd (Prod.snd (Prod.snd a0))) && (Prod.fst (Prod.snd r17) == Prod.fst (Prod.snd (Prod.snd (Prod.snd (Prod.snd a0)))) && (ByteArray.toList (Prod.fst (Prod.snd (Prod.snd r17))) == ByteArray.toList (Prod.fst (Prod.snd (Prod.snd (Prod.snd (Prod.snd (Prod.snd a0)))))) && true))) fun v18 =>
                                  (if v18 = true then
                                    K true
                                  else
                                    (if (!decide (w64 (v10 + a2) < r6)) = true then
                                      (lt (Prod.fst r17 == Prod.fst a0 && (Prod.fst (Prod.snd r17) == Prod.fst (Prod.snd a0) && (ByteArray.toList (Prod.fst (Prod.snd (Prod.snd r17))) == ByteArray.toList (Prod.fst (Prod.snd (Prod.snd a0))) && true))) fun v19 =>
                                      K v19)
                                    else
                                      K false)))
                                else
                                  (if (!decide (w64 (v10 + a2) < r6)) = true then
                                    (lt (Prod.fst r17 == Prod.fst a0 && (Prod.fst (Prod.snd r17) == Prod.fst (Prod.snd a0) && (ByteArray.toList (Prod.fst (Prod.snd (Prod.snd r17))) == ByteArray.toList (Prod.fst (Prod.snd (Prod.snd a0))) && true))) fun v20 =>
                                    K v20)
                                  else
                                    K false))
                              else
                                K false)
                            else
                              K false)))
                      else
                        (if decide (r5 ≥ r6) = true then
                          (if decide (w64 (v10 + a2) ≥ r5) = true then
                            xfoot_Lookup a0 (w64 (v10 + a2)) (fun r21 =>
                              (if r3 = true then
                                (if r9 = true then
                                  (lt (Prod.fst r21 == Prod.fst (Prod.snd (Prod.snd (Prod.snd a0))) && (Prod.fst (Prod.snd r21) == Prod.fst (Prod.snd (Prod.snd (Prod.snd (Prod.snd a0)))) && (ByteArray.toList (Prod.fst (Prod.snd (Prod.snd r21))) == ByteArray.toList (Prod.fst (Prod.snd (Prod.snd (Prod.snd (Prod.snd (Prod.snd a0)))))) && true))) fun v22 =>
                                  (if v22 = true then
                                    K true
                                  else
                                    K false))
                                else
                                  K false)
                              else
                                K false))
                          else
                            xfoot_Lookup a0 (w64 (v10 + a2)) (fun r23 =>
                              (if r3 = true then
                                (if r9 = true then
                                  (if decide (w64 (v10 + a2) < r6) = true then
                                    (lt (Prod.fst r23 == Prod.fst (Prod.snd (Prod.snd (Prod.snd a0))) && (Prod.fst (Prod.snd r23) == Prod.fst (Prod.snd (Prod.snd (Prod.snd (Prod.snd a0)))) && (ByteArray.toList (Prod.fst (Prod.snd (Prod.snd r23))) == ByteArray.toList (Prod.fst (Prod.snd (Prod.snd (Prod.snd (Prod.snd (Prod.snd a0)))))) && true))) fun v24 =>
                                    (if v24 = true then
                                      K true
                                    else
                                      (if (!decide (w64 (v10 + a2) < r6)) = true then
                                        (lt (Prod.fst r23 == Prod.fst a0 && (Prod.fst (Prod.snd r23) == Prod.fst (Prod.snd a0) && (ByteArray.toList (Prod.fst (Prod.snd (Prod.snd r23))) == ByteArray.toList (Prod.fst (Prod.snd (Prod.snd a0))) && true))) fun v25 =>
                                        K v25)
                                      else
                                        K false)))
                                  else
                                    (if (!decide (w64 (v10 + a2) < r6)) = true then
                                      (lt (Prod.fst r23 == Prod.fst a0 && (Prod.fst (Prod.snd r23) == Prod.fst (Prod.snd a0) && (ByteArray.toList (Prod.fst (Prod.snd (Prod.snd r23))) == ByteArray.toList (Prod.fst (Prod.snd (Prod.snd a0))) && true))) fun v26 =>
                                      K v26)
                                    else
                                      K false))
                                else
                                  K false)
                              else
                                K false)))
                        else
                          xfoot_Lookup a0 (w64 (v10 + a2)) (fun r27 =>
                            (if r3 = true then
                              (if r9 = true then
                                (lt (Prod.fst r27 == Prod.fst a0 && (Prod.fst (Prod.snd r27) == Prod.fst (Prod.snd a0) && (ByteArray.toList (Prod.fst (Prod.snd (Prod.snd r27))) == ByteArray.toList (Prod.fst (Prod.snd (Prod.snd a0))) && true))) fun v28 =>
                                K v28)
                              else
                                K false)
                            else
                              K false)))))))))))))))
def Xepactlaw18_FootSpans (a0 : Int × Bool × ByteArray × Int × Bool × ByteArray × Bool × Int × Int × Int × Int × Int × Int × Int × Int × Int × Int × Unit) (a1 : Int) (a2 : Int) (K : (Bool) → Prop) : Prop := Yepactlaw18_FootSpans Xepactlaw18_small Xfoot_Right Xfoot_Span Xday_Number Xfoot_Lookup a0 a1 a2 K
def Jepactlaw18_FootSpans (X : (Int × Bool × ByteArray × Int × Bool × ByteArray × Bool × Int × Int × Int × Int × Int × Int × Int × Int × Int × Int × Unit) → (Int) → (Int) → ((Bool) → Prop) → Prop) : Inst := ⟨5, (.cons (.agg (.cons (.int .i64) (.cons .bool (.cons .str (.cons (.int .i64) (.cons .bool (.cons .str (.cons .bool (.cons (.int .i64) (.cons (.int .i64) (.cons (.int .i64) (.cons (.int .i64) (.cons (.int .i64) (.cons (.int .i64) (.cons (.int .i64) (.cons (.int .i64) (.cons (.int .i64) (.cons (.int .i64) .nil)))))))))))))))))) (.cons (.int .i64) (.cons (.int .i64) .nil))), .nil, (.cons .bool .nil), .nil, fun x y K => X x.1 x.2.1 x.2.2.1 (fun u0 => K (u0, ()) ())⟩
def Iepactlaw18_FootSpans : Inst := Jepactlaw18_FootSpans Xepactlaw18_FootSpans
theorem Eepactlaw18_FootSpans (xepactlaw18_small : ((Bool) → Prop) → Prop) (xfoot_Right : (Int × Bool × ByteArray × Int × Bool × ByteArray × Bool × Int × Int × Int × Int × Int × Int × Int × Int × Int × Int × Unit) → ((Bool) → Prop) → Prop) (xfoot_Span : (Int × Bool × ByteArray × Int × Bool × ByteArray × Bool × Int × Int × Int × Int × Int × Int × Int × Int × Int × Int × Unit) → (Int) → ((Int) → (Int) → (Bool) → Prop) → Prop) (xday_Number : (Int) → (Int) → (Int) → ((Int) → (Bool) → Prop) → Prop) (xfoot_Lookup : (Int × Bool × ByteArray × Int × Bool × ByteArray × Bool × Int × Int × Int × Int × Int × Int × Int × Int × Int × Int × Unit) → (Int) → ((Int × Bool × ByteArray × Unit) → Prop) → Prop) (x : PL.T (.cons (.agg (.cons (.int .i64) (.cons .bool (.cons .str (.cons (.int .i64) (.cons .bool (.cons .str (.cons .bool (.cons (.int .i64) (.cons (.int .i64) (.cons (.int .i64) (.cons (.int .i64) (.cons (.int .i64) (.cons (.int .i64) (.cons (.int .i64) (.cons (.int .i64) (.cons (.int .i64) (.cons (.int .i64) .nil)))))))))))))))))) (.cons (.int .i64) (.cons (.int .i64) .nil)))) (y : PH.T .nil) (K : PL.T (.cons .bool .nil) → PH.T .nil → Prop) : Yepactlaw18_FootSpans xepactlaw18_small xfoot_Right xfoot_Span xday_Number xfoot_Lookup x.1 x.2.1 x.2.2.1 (fun u0 => K (u0, ()) ()) = bodyC (envP Tryd.prog 128 gives ⟨tabC [Jepactlaw18_small xepactlaw18_small, Jfoot_Right xfoot_Right, Jfoot_Span xfoot_Span, Jday_Number xday_Number, Jfoot_Lookup xfoot_Lookup], tabL []⟩) Tryd.f5 (Tryd.f5.body.getD .skip) (PL.enc (.cons (.agg (.cons (.int .i64) (.cons .bool (.cons .str (.cons (.int .i64) (.cons .bool (.cons .str (.cons .bool (.cons (.int .i64) (.cons (.int .i64) (.cons (.int .i64) (.cons (.int .i64) (.cons (.int .i64) (.cons (.int .i64) (.cons (.int .i64) (.cons (.int .i64) (.cons (.int .i64) (.cons (.int .i64) .nil)))))))))))))))))) (.cons (.int .i64) (.cons (.int .i64) .nil))) x) (PH.enc .nil y) (resK (.cons .bool .nil) .nil K) := by kernel_rfl
theorem Iepactlaw18_FootSpans_ok : InstOk Tryd.prog G.1 Iepactlaw18_FootSpans := inst_ok (gives := gives) (is := [Iepactlaw18_small, Ifoot_Right, Ifoot_Span, Iday_Number, Ifoot_Lookup]) [] (okCons Iepactlaw18_small_ok (okCons Ifoot_Right_ok (okCons Ifoot_Span_ok (okCons Iday_Number_ok (okCons Ifoot_Lookup_ok okNil))))) 128 follows Tryd.func5 (by kernel_rfl) (fun x => by kernel_rfl) (fun x y K => Eepactlaw18_FootSpans Xepactlaw18_small Xfoot_Right Xfoot_Span Xday_Number Xfoot_Lookup x y K)

/- epact/epactlaw18.FootPlain -/
def Yepactlaw18_FootPlain (xepactlaw18_small : ((Bool) → Prop) → Prop) (xfoot_Right : (Int × Bool × ByteArray × Int × Bool × ByteArray × Bool × Int × Int × Int × Int × Int × Int × Int × Int × Int × Int × Unit) → ((Bool) → Prop) → Prop) (xfoot_Lookup : (Int × Bool × ByteArray × Int × Bool × ByteArray × Bool × Int × Int × Int × Int × Int × Int × Int × Int × Int × Int × Unit) → (Int) → ((Int × Bool × ByteArray × Unit) → Prop) → Prop) (a0 : Int × Bool × ByteArray × Int × Bool × ByteArray × Bool × Int × Int × Int × Int × Int × Int × Int × Int × Int × Int × Unit) (a1 : Int) (K : (Bool) → Prop) : Prop :=
  xepactlaw18_small (fun r2 =>
    (if decide ((↑(ByteArray.size (Prod.fst (Prod.snd (Prod.snd a0)))) : Int) > (100 : Int)) = true then
      K r2
    else
      (if decide ((↑(ByteArray.size (Prod.fst (Prod.snd (Prod.snd (Prod.snd (Prod.snd (Prod.snd a0))))))) : Int) > (100 : Int)) = true then
        K r2
      else
        xfoot_Right a0 (fun r3 =>
          (if (!r3) = true then
            K r2
          else
            xfoot_Lookup a0 a1 (fun r4 =>
              (if r2 = true then
                xfoot_Right (Prod.fst a0, Prod.fst (Prod.snd a0), Prod.fst (Prod.snd (Prod.snd a0)), (0 : Int), false, ByteArray.mk #[], false, (0 : Int), (0 : Int), (0 : Int), (0 : Int), (0 : Int), (0 : Int), (0 : Int), (0 : Int), (0 : Int), (0 : Int), ()) (fun r5 =>
                  (if r5 = true then
                    xfoot_Lookup (Prod.fst a0, Prod.fst (Prod.snd a0), Prod.fst (Prod.snd (Prod.snd a0)), (0 : Int), false, ByteArray.mk #[], false, (0 : Int), (0 : Int), (0 : Int), (0 : Int), (0 : Int), (0 : Int), (0 : Int), (0 : Int), (0 : Int), (0 : Int), ()) a1 (fun r6 =>
                      (lt (Prod.fst r6 == Prod.fst a0 && (Prod.fst (Prod.snd r6) == Prod.fst (Prod.snd a0) && (ByteArray.toList (Prod.fst (Prod.snd (Prod.snd r6))) == ByteArray.toList (Prod.fst (Prod.snd (Prod.snd a0))) && true))) fun v7 =>
                      (if v7 = true then
                        (lt (Prod.fst r4 == Prod.fst a0 && (Prod.fst (Prod.snd r4) == Prod.fst (Prod.snd a0) && (ByteArray.toList (Prod.fst (Prod.snd (Prod.snd r4))) == ByteArray.toList (Prod.fst (Prod.snd (Prod.snd a0))) && true))) fun v8 =>
                        (if v8 = true then
                          K true
                        else
                          (if Prod.fst (Prod.snd (Prod.snd (Prod.snd (Prod.snd (Prod.snd (Prod.snd a0)))))) = true then
                            (lt (Prod.fst r4 == Prod.fst (Prod.snd (Prod.snd (Prod.snd a0))) && (Prod.fst (Prod.snd r4) == Prod.fst (Prod.snd (Prod.snd (Prod.snd (Prod.snd a0)))) && (ByteArray.toList (Prod.fst (Prod.snd (Prod.snd r4))) == ByteArray.toList (Prod.fst (Prod.snd (Prod.snd (Prod.snd (Prod.snd (Prod.snd a0)))))) && true))) fun v9 =>
                            K v9)
                          else
                            K false)))
                      else
                        K false)))
                  else
                    K false))
              else
                K false)))))))
def Xepactlaw18_FootPlain (a0 : Int × Bool × ByteArray × Int × Bool × ByteArray × Bool × Int × Int × Int × Int × Int × Int × Int × Int × Int × Int × Unit) (a1 : Int) (K : (Bool) → Prop) : Prop := Yepactlaw18_FootPlain Xepactlaw18_small Xfoot_Right Xfoot_Lookup a0 a1 K
def Jepactlaw18_FootPlain (X : (Int × Bool × ByteArray × Int × Bool × ByteArray × Bool × Int × Int × Int × Int × Int × Int × Int × Int × Int × Int × Unit) → (Int) → ((Bool) → Prop) → Prop) : Inst := ⟨6, (.cons (.agg (.cons (.int .i64) (.cons .bool (.cons .str (.cons (.int .i64) (.cons .bool (.cons .str (.cons .bool (.cons (.int .i64) (.cons (.int .i64) (.cons (.int .i64) (.cons (.int .i64) (.cons (.int .i64) (.cons (.int .i64) (.cons (.int .i64) (.cons (.int .i64) (.cons (.int .i64) (.cons (.int .i64) .nil)))))))))))))))))) (.cons (.int .i64) .nil)), .nil, (.cons .bool .nil), .nil, fun x y K => X x.1 x.2.1 (fun u0 => K (u0, ()) ())⟩
def Iepactlaw18_FootPlain : Inst := Jepactlaw18_FootPlain Xepactlaw18_FootPlain
theorem Eepactlaw18_FootPlain (xepactlaw18_small : ((Bool) → Prop) → Prop) (xfoot_Right : (Int × Bool × ByteArray × Int × Bool × ByteArray × Bool × Int × Int × Int × Int × Int × Int × Int × Int × Int × Int × Unit) → ((Bool) → Prop) → Prop) (xfoot_Lookup : (Int × Bool × ByteArray × Int × Bool × ByteArray × Bool × Int × Int × Int × Int × Int × Int × Int × Int × Int × Int × Unit) → (Int) → ((Int × Bool × ByteArray × Unit) → Prop) → Prop) (x : PL.T (.cons (.agg (.cons (.int .i64) (.cons .bool (.cons .str (.cons (.int .i64) (.cons .bool (.cons .str (.cons .bool (.cons (.int .i64) (.cons (.int .i64) (.cons (.int .i64) (.cons (.int .i64) (.cons (.int .i64) (.cons (.int .i64) (.cons (.int .i64) (.cons (.int .i64) (.cons (.int .i64) (.cons (.int .i64) .nil)))))))))))))))))) (.cons (.int .i64) .nil))) (y : PH.T .nil) (K : PL.T (.cons .bool .nil) → PH.T .nil → Prop) : Yepactlaw18_FootPlain xepactlaw18_small xfoot_Right xfoot_Lookup x.1 x.2.1 (fun u0 => K (u0, ()) ()) = bodyC (envP Tryd.prog 62 gives ⟨tabC [Jepactlaw18_small xepactlaw18_small, Jfoot_Right xfoot_Right, Jfoot_Lookup xfoot_Lookup], tabL []⟩) Tryd.f6 (Tryd.f6.body.getD .skip) (PL.enc (.cons (.agg (.cons (.int .i64) (.cons .bool (.cons .str (.cons (.int .i64) (.cons .bool (.cons .str (.cons .bool (.cons (.int .i64) (.cons (.int .i64) (.cons (.int .i64) (.cons (.int .i64) (.cons (.int .i64) (.cons (.int .i64) (.cons (.int .i64) (.cons (.int .i64) (.cons (.int .i64) (.cons (.int .i64) .nil)))))))))))))))))) (.cons (.int .i64) .nil)) x) (PH.enc .nil y) (resK (.cons .bool .nil) .nil K) := by kernel_rfl
theorem Iepactlaw18_FootPlain_ok : InstOk Tryd.prog G.1 Iepactlaw18_FootPlain := inst_ok (gives := gives) (is := [Iepactlaw18_small, Ifoot_Right, Ifoot_Lookup]) [] (okCons Iepactlaw18_small_ok (okCons Ifoot_Right_ok (okCons Ifoot_Lookup_ok okNil))) 62 follows Tryd.func6 (by kernel_rfl) (fun x => by kernel_rfl) (fun x y K => Eepactlaw18_FootPlain Xepactlaw18_small Xfoot_Right Xfoot_Lookup x y K)

end Go.Proofs.YtcopbcfekmbhlaaDoor
end
section
set_option linter.unusedVariables false
set_option linter.unusedSimpArgs false
set_option linter.unusedVariables false
namespace Go.Proofs.YtcopbcfekmbhlaaDoor
open Go Go.Proofs.YtcopbcfekmbhlaaDoor.Eng
/-- The law over plain data. -/
def PureFootBack : Prop := ∀ (a0_0 : Int) (a0_1 : Bool) (a0_2 : ByteArray) (a0_3 : Int) (a0_4 : Bool) (a0_5 : ByteArray) (a0_6 : Bool) (a0_7 : Int) (a0_8 : Int) (a0_9 : Int) (a0_10 : Int) (a0_11 : Int) (a0_12 : Int) (a0_13 : Int) (a0_14 : Int) (a0_15 : Int) (a0_16 : Int) (a1 : ByteArray) (ha0_0 : (Lit.int .i64 a0_0).wf = true) (ha0_3 : (Lit.int .i64 a0_3).wf = true) (ha0_7 : (Lit.int .i64 a0_7).wf = true) (ha0_8 : (Lit.int .i64 a0_8).wf = true) (ha0_9 : (Lit.int .i64 a0_9).wf = true) (ha0_10 : (Lit.int .i64 a0_10).wf = true) (ha0_11 : (Lit.int .i64 a0_11).wf = true) (ha0_12 : (Lit.int .i64 a0_12).wf = true) (ha0_13 : (Lit.int .i64 a0_13).wf = true) (ha0_14 : (Lit.int .i64 a0_14).wf = true) (ha0_15 : (Lit.int .i64 a0_15).wf = true) (ha0_16 : (Lit.int .i64 a0_16).wf = true) (ha1 : a1.size ≤ 140737488351232), Xepactlaw18_FootBack (a0_0, a0_1, a0_2, a0_3, a0_4, a0_5, a0_6, a0_7, a0_8, a0_9, a0_10, a0_11, a0_12, a0_13, a0_14, a0_15, a0_16, ()) a1 (fun b => b = true)
end Go.Proofs.YtcopbcfekmbhlaaDoor
end
section
set_option linter.unusedVariables false
set_option linter.unusedSimpArgs false
namespace Go.Proofs.YtcopbcfekmbhlaaDoor.Pl
open Go
set_option linter.unusedVariables false
set_option linter.unusedSimpArgs false

def digsN : Nat → Nat → List UInt8
  | 0, _ => []
  | k + 1, u => if u < 10 then [UInt8.ofNat (48 + u)] else digsN k (u / 10) ++ [UInt8.ofNat (48 + u % 10)]
theorem digsN_eq : ∀ k u, u < 10 ^ (k + 1) → digsN (k + 1) u = Lib.decDigits u
  | 0, u, h => by rw [Lib.decDigits, digsN, if_pos (by simpa using h), dif_pos (by simpa using h)]
  | k + 1, u, h => by
    rw [Lib.decDigits, digsN]
    by_cases h1 : u < 10
    · rw [if_pos h1, dif_pos h1]
    · rw [if_neg h1, dif_neg h1, digsN_eq k (u / 10) (by rw [Nat.pow_succ] at h; omega)]
def itoaK (n : Int) : List UInt8 := if n < 0 then 45 :: digsN 20 n.natAbs else digsN 20 n.toNat
theorem itoaK_eq (n : Int) (h0 : -9223372036854775808 ≤ n) (h1 : n ≤ 9223372036854775807) : itoaK n = Lib.itoa n := by
  unfold itoaK Lib.itoa
  split
  · rw [digsN_eq 19 _ (by omega)]
  · rw [digsN_eq 19 _ (by omega)]
def isDig (c : UInt8) : Bool := 48 ≤ c.toNat && c.toNat ≤ 57
theorem takeWhile_len_of {p : UInt8 → Bool} : ∀ (l : List UInt8) (k : Nat), k ≤ l.length → (∀ j (h : j < l.length), j < k → p l[j] = true) → (∀ h : k < l.length, p l[k] = false) → (l.takeWhile p).length = k
  | [], k, hk, _, _ => by simp at hk; simp [hk]
  | a :: l, 0, _, _, h => by have := h (by simp); simp at this; simp [List.takeWhile_cons, this]
  | a :: l, k + 1, hk, h1, h2 => by
    have ha : p a = true := h1 0 (by simp) (by omega)
    rw [List.takeWhile_cons, if_pos ha, List.length_cons, takeWhile_len_of l k (by simpa using hk) (fun j hj hjk => by have := h1 (j + 1) (by simpa using hj) (by omega); simpa using this) (fun hk' => by have := h2 (by simpa using hk'); simpa using this)]
theorem decode_dig (s : ByteArray) (pos : Nat) (h : pos < s.size) : ((48 ≤ (Utf8.decode s pos).1 ∧ (Utf8.decode s pos).1 ≤ 57) → isDig s[pos] = true ∧ (Utf8.decode s pos).2 = 1) ∧ (¬ (48 ≤ (Utf8.decode s pos).1 ∧ (Utf8.decode s pos).1 ≤ 57) → isDig s[pos] = false) := by
  by_cases ha : (s[pos]'h).toNat < 128
  · rw [decode_ascii s pos h ha]
    unfold isDig
    refine ⟨fun hh => ⟨by simp; omega, rfl⟩, fun hh => ?_⟩
    simp
    omega
  · have hd := (decode_high s pos h (by omega)).1
    unfold isDig
    refine ⟨fun hh => by omega, fun _ => by simp; omega⟩

/-- A text out of a list. -/
abbrev S (l : List UInt8) : ByteArray := ⟨l.toArray⟩
theorem of_S (s : ByteArray) : s = S s.data.toList := by cases s; simp [S]
theorem S_size (l : List UInt8) : (S l).size = l.length := by simp [S, ByteArray.size]
theorem S_sizeI (l : List UInt8) : ((S l).size : Int) = (l.length : Int) := by rw [S_size]
theorem S_append (a b : List UInt8) : S a ++ S b = S (a ++ b) := ByteArray.mk_append_mk a b
theorem S_toList (l : List UInt8) : (S l).toList = l := ByteArray.toList_mk l
theorem S_data (l : List UInt8) : (S l).data.toList = l := by simp [S]
theorem S_inj {a b : List UInt8} (h : S a = S b) : a = b := by have := congrArg (fun s => s.data.toList) h; simpa [S] using this
theorem S_extract (l : List UInt8) (a b : Nat) : (S l).extract a b = S ((l.drop a).take (b - a)) := by rw [Lib.extract_eq, S_data]
theorem S_drop (l : List UInt8) (a : Nat) : (S l).extract a (S l).size = S (l.drop a) := by
  rw [S_extract, S_size, List.take_of_length_le (by simp)]
theorem S_take (l : List UInt8) (b : Nat) : (S l).extract 0 b = S (l.take b) := by rw [S_extract]; simp
theorem u8_lt (c : UInt8) : c.toNat < 256 := c.toNat_lt
theorem u8_eq {a b : UInt8} (h : a.toNat = b.toNat) : a = b := UInt8.toNat_inj.1 h

/-- How many digits a list begins with. -/
def dl (l : List UInt8) : Nat := (l.takeWhile isDig).length
theorem dl_le (l : List UInt8) : dl l ≤ l.length := by unfold dl; exact (List.takeWhile_sublist _).length_le
theorem dl_cons (c : UInt8) (l : List UInt8) : dl (c :: l) = if isDig c = true then dl l + 1 else 0 := by
  unfold dl; rw [List.takeWhile_cons]; split <;> simp
theorem dl_nil : dl [] = 0 := rfl
/-- The number of a row of digits. -/
def valL (l : List UInt8) : Nat := l.foldl (fun n c => 10 * n + (c.toNat - 48)) 0
theorem decFrom_val : ∀ (l : List UInt8) (acc : Nat), (∀ c ∈ l, isDig c = true) → Lib.decFrom acc l = some (l.foldl (fun n c => 10 * n + (c.toNat - 48)) acc)
  | [], acc, _ => rfl
  | c :: l, acc, h => by
    have hc : isDig c = true := h c (by simp)
    unfold isDig at hc
    simp at hc
    unfold Lib.decFrom Lib.digitVal
    rw [if_pos hc]
    simp only []
    rw [decFrom_val l _ (fun c' hc' => h c' (by simp [hc'])), List.foldl_cons, Nat.mul_comm]
theorem atoi_val (l : List UInt8) (hne : l ≠ []) (h : ∀ c ∈ l, isDig c = true) : Lib.atoi l = some (valL l : Int) := by
  cases l with
  | nil => exact absurd rfl hne
  | cons c r =>
    have hc : isDig c = true := h c (by simp)
    unfold isDig at hc
    simp at hc
    have h1 : (c == 45) = false := by rw [beq_eq_false_iff_ne]; rintro rfl; simp at hc
    have h2 : (c == 43) = false := by rw [beq_eq_false_iff_ne]; rintro rfl; simp at hc
    simp only [Lib.atoi, Lib.decNat, h1, h2, Bool.false_eq_true, if_false, List.isEmpty_cons]
    rw [decFrom_val _ _ h]
    rfl
theorem take_dl_dig (l : List UInt8) (k : Nat) (h : k ≤ dl l) : ∀ c ∈ l.take k, isDig c = true := by
  intro c hc
  have hs : l.take k = (l.takeWhile isDig).take k := by
    conv => lhs; rw [← List.takeWhile_append_dropWhile (p := isDig) (l := l)]
    rw [List.take_append_of_le_length h]
  rw [hs] at hc
  have hall : (l.takeWhile isDig).all isDig = true := List.all_takeWhile
  exact List.all_eq_true.1 hall c (List.mem_of_mem_take hc)

end Go.Proofs.YtcopbcfekmbhlaaDoor.Pl
end
section
set_option linter.unusedVariables false
set_option linter.unusedSimpArgs false
namespace Go.Proofs.YtcopbcfekmbhlaaDoor.Pl
open Go
set_option linter.unusedVariables false
set_option linter.unusedSimpArgs false

/-- What stands behind a colon: minutes, or seconds. -/
def sixtyL : List UInt8 → Int × List UInt8 × Bool
  | c :: a :: b :: r => if c = 58 ∧ isDig a = true ∧ isDig b = true ∧ a.toNat ≤ 53 then (10 * (a.toNat - 48) + (b.toNat - 48), r, true) else (0, c :: a :: b :: r, false)
  | l => (0, l, false)
theorem foldl_lt : ∀ (l : List UInt8) (acc : Nat), (∀ c ∈ l, isDig c = true) → l.foldl (fun n c => 10 * n + (c.toNat - 48)) acc < (acc + 1) * 10 ^ l.length
  | [], acc, _ => by simp
  | c :: l, acc, h => by
    have hc : isDig c = true := h c (by simp)
    unfold isDig at hc
    simp at hc
    have := foldl_lt l (10 * acc + (c.toNat - 48)) (fun c' hc' => h c' (by simp [hc']))
    rw [List.foldl_cons, List.length_cons, Nat.pow_succ]
    refine Nat.lt_of_lt_of_le this ?_
    have h1 : (10 * acc + (c.toNat - 48) + 1) ≤ (acc + 1) * 10 := by omega
    calc (10 * acc + (c.toNat - 48) + 1) * 10 ^ l.length ≤ ((acc + 1) * 10) * 10 ^ l.length := Nat.mul_le_mul_right _ h1
      _ = (acc + 1) * (10 ^ l.length * 10) := by rw [Nat.mul_assoc, Nat.mul_comm 10]
theorem valL_lt (l : List UInt8) (h : ∀ c ∈ l, isDig c = true) : valL l < 10 ^ l.length := by
  have := foldl_lt l 0 h
  simpa [valL] using this
theorem sixty_bd (l : List UInt8) : 0 ≤ (sixtyL l).1 ∧ (sixtyL l).1 ≤ 59 := by
  unfold sixtyL
  split
  · split
    · rename_i h
      obtain ⟨_, ha, hb, h5⟩ := h
      unfold isDig at ha hb
      simp at ha hb
      simp only []
      omega
    · simp
  · simp
theorem sixty_len (l : List UInt8) : (sixtyL l).2.1.length ≤ l.length := by
  unfold sixtyL
  split
  · split
    · simp; omega
    · simp
  · simp

/-- A time. -/
def signL : List UInt8 → Int × List UInt8
  | [] => (1, [])
  | c :: r => if c = 45 then (-1, r) else if c = 43 then (1, r) else (1, c :: r)
def hourL (t : List UInt8) : Nat × Nat :=
  if valL (t.take (min (dl t) 3)) > 167 then (valL (t.take (min (dl t) 3)) / 10, min (dl t) 3 - 1) else (valL (t.take (min (dl t) 3)), min (dl t) 3)
def moreL (p : Int × List UInt8 × Bool) : Int × List UInt8 × Bool := if p.2.2 = true then sixtyL p.2.1 else (0, p.2.1, false)
def timeL (l : List UInt8) : Int × List UInt8 × Bool :=
  if dl (signL l).2 = 0 then (0, l, false)
  else
    ((signL l).1 * ((hourL (signL l).2).1 * 3600 + (sixtyL ((signL l).2.drop (hourL (signL l).2).2)).1 * 60 + (moreL (sixtyL ((signL l).2.drop (hourL (signL l).2).2))).1),
      (moreL (sixtyL ((signL l).2.drop (hourL (signL l).2).2))).2.1, true)
theorem hour_bd (t : List UInt8) : (hourL t).1 ≤ 167 ∧ (hourL t).2 ≤ dl t ∧ (hourL t).2 ≤ 3 ∧ (dl t ≠ 0 → 1 ≤ (hourL t).2) := by
  have hv : valL (t.take (min (dl t) 3)) < 10 ^ (t.take (min (dl t) 3)).length := valL_lt _ (take_dl_dig t _ (Nat.min_le_left _ _))
  have hl : (t.take (min (dl t) 3)).length ≤ 3 := by rw [List.length_take]; omega
  have h3 : 10 ^ (t.take (min (dl t) 3)).length ≤ 10 ^ 3 := Nat.pow_le_pow_right (by omega) hl
  have hm : min (dl t) 3 ≤ dl t := Nat.min_le_left _ _
  have hm3 : min (dl t) 3 ≤ 3 := Nat.min_le_right _ _
  unfold hourL
  split
  · rename_i hgt
    refine ⟨by simp only []; omega, by simp only []; omega, by simp only []; omega, fun h0 => ?_⟩
    simp only []
    have : ¬ (t.take (min (dl t) 3)).length ≤ 1 := fun h1 => by
      have : 10 ^ (t.take (min (dl t) 3)).length ≤ 10 ^ 1 := Nat.pow_le_pow_right (by omega) h1
      omega
    rw [List.length_take] at this
    omega
  · refine ⟨by simp only []; omega, by simp only []; omega, by simp only []; omega, fun h0 => by simp only []; omega⟩
theorem itoaK_nat (n : Nat) : itoaK (n : Int) = digsN 20 n := by
  unfold itoaK
  rw [if_neg (by omega), Int.toNat_natCast]
def pairL (m : Nat) : List UInt8 := 58 :: (digsN 20 (m / 10) ++ digsN 20 (m % 10))
theorem digsN_len : ∀ k u, (digsN k u).length ≤ k
  | 0, _ => by simp [digsN]
  | k + 1, u => by
    rw [digsN]
    split
    · simp
    · have := digsN_len k (u / 10); simp; omega
/-- The text of a time. -/
def clockB (a : Nat) : List UInt8 := digsN 20 (a / 3600) ++ (if a % 60 ≠ 0 then pairL (a / 60 % 60) ++ pairL (a % 60) else if a / 60 % 60 ≠ 0 then pairL (a / 60 % 60) else [])
def clockL (sec : Int) : List UInt8 × Bool := if -604799 ≤ sec ∧ sec ≤ 604799 then ((if sec < 0 then [45] else []) ++ clockB sec.natAbs, true) else ([], false)
theorem pairL_len (m : Nat) : (pairL m).length ≤ 41 := by
  have l1 := digsN_len 20 (m / 10)
  have l2 := digsN_len 20 (m % 10)
  simp [pairL]; omega
theorem hours_ok : ∀ h, h < 168 → ((digsN 20 h).all isDig = true ∧ valL (digsN 20 h) = h ∧ 1 ≤ (digsN 20 h).length ∧ (digsN 20 h).length ≤ 3) := by decide +kernel
theorem pairs_ok : ∀ m, m < 60 → pairL m = [58, UInt8.ofNat (48 + m / 10), UInt8.ofNat (48 + m % 10)] := by decide +kernel
theorem dl_app (a b : List UInt8) (ha : a.all isDig = true) (hb : ∀ c, b.head? = some c → isDig c = false) : dl (a ++ b) = a.length := by
  induction a with
  | nil =>
    cases b with
    | nil => rfl
    | cons c b => rw [List.nil_append, dl_cons, if_neg (by rw [hb c rfl]; simp)]; rfl
  | cons c a ih =>
    simp only [List.all_cons, Bool.and_eq_true] at ha
    rw [List.cons_append, dl_cons, if_pos ha.1, ih ha.2]; rfl
theorem sixty_pair (m : Nat) (h : m < 60) (r : List UInt8) : sixtyL (pairL m ++ r) = ((m : Int), r, true) := by
  rw [pairs_ok m h]
  show sixtyL (58 :: UInt8.ofNat (48 + m / 10) :: UInt8.ofNat (48 + m % 10) :: r) = _
  simp only [sixtyL]
  have h1 : (UInt8.ofNat (48 + m / 10)).toNat = 48 + m / 10 := by rw [UInt8.toNat_ofNat']; omega
  have h2 : (UInt8.ofNat (48 + m % 10)).toNat = 48 + m % 10 := by rw [UInt8.toNat_ofNat']; omega
  rw [if_pos ⟨trivial, by unfold isDig; rw [h1]; simp; omega, by unfold isDig; rw [h2]; simp; omega, by rw [h1]; omega⟩, h1, h2]
  simp only [Prod.mk.injEq, and_true]
  omega
theorem sixty_other (r : List UInt8) (h : r.head? ≠ some 58) : sixtyL r = (0, r, false) := by
  unfold sixtyL
  split
  · rename_i c a b r'
    rw [if_neg]
    rintro ⟨rfl, _⟩
    exact h rfl
  · rfl
/-- Behind the hours: nothing, or a colon. -/
theorem time_body (a : Nat) (h : a ≤ 604799) (tail : List UInt8) (ht : ∀ c, tail.head? = some c → isDig c = false ∧ c ≠ 58) (sg : Int) (l : List UInt8) (hl : signL l = (sg, clockB a ++ tail)) :
    timeL l = (sg * (a : Int), tail, true) := by
  obtain ⟨d1, d2, d3, d4⟩ := hours_ok (a / 3600) (by omega)
  have hcol : isDig 58 = false := by decide
  obtain ⟨rest, hrest, hhead⟩ : ∃ rest, clockB a ++ tail = digsN 20 (a / 3600) ++ rest ∧ (∀ c, rest.head? = some c → isDig c = false) ∧
      (a % 60 ≠ 0 → rest = pairL (a / 60 % 60) ++ (pairL (a % 60) ++ tail)) ∧ (a % 60 = 0 → a / 60 % 60 ≠ 0 → rest = pairL (a / 60 % 60) ++ tail) ∧ (a % 60 = 0 → a / 60 % 60 = 0 → rest = tail) := by
    unfold clockB
    by_cases hs : a % 60 = 0
    · rw [if_neg (by simpa using hs)]
      by_cases hm : a / 60 % 60 = 0
      · rw [if_neg (by simpa using hm)]
        exact ⟨tail, by simp, fun c hc => (ht c hc).1, fun h' => absurd hs h', fun _ h' => absurd hm h', fun _ _ => rfl⟩
      · rw [if_pos (by simpa using hm)]
        exact ⟨pairL (a / 60 % 60) ++ tail, by simp, fun c hc => by simp [pairL] at hc; rw [← hc]; exact hcol, fun h' => absurd hs h', fun _ _ => rfl, fun _ h' => absurd h' hm⟩
    · rw [if_pos (by simpa using hs)]
      exact ⟨pairL (a / 60 % 60) ++ (pairL (a % 60) ++ tail), by simp, fun c hc => by simp [pairL] at hc; rw [← hc]; exact hcol, fun _ => rfl, fun h' => absurd h' hs, fun h' => absurd h' hs⟩
  have hdl : dl (digsN 20 (a / 3600) ++ rest) = (digsN 20 (a / 3600)).length := dl_app _ _ d1 hhead.1
  have hmin : min (dl (digsN 20 (a / 3600) ++ rest)) 3 = (digsN 20 (a / 3600)).length := by rw [hdl]; omega
  have hhour : hourL (digsN 20 (a / 3600) ++ rest) = (a / 3600, (digsN 20 (a / 3600)).length) := by
    unfold hourL
    rw [hmin, List.take_left, d2, if_neg (by omega)]
  unfold timeL
  rw [hl, hrest]
  simp only []
  rw [hhour]
  simp only []
  rw [if_neg (by omega), List.drop_left]
  by_cases hs : a % 60 = 0
  · by_cases hm : a / 60 % 60 = 0
    · rw [hhead.2.2.2 hs hm, sixty_other _ (fun e => (ht 58 e).2 rfl)]
      simp only [moreL, Prod.mk.injEq, and_true, Bool.false_eq_true, if_false]
      congr 1
      omega
    · rw [hhead.2.2.1 hs hm, sixty_pair _ (by omega)]
      simp only [moreL, if_true]
      rw [sixty_other _ (fun e => (ht 58 e).2 rfl)]
      simp only [Prod.mk.injEq, and_true]
      congr 1
      omega
  · rw [hhead.2.1 hs, sixty_pair _ (by omega)]
    simp only [moreL, if_true]
    rw [sixty_pair _ (by omega)]
    simp only [Prod.mk.injEq, and_true]
    congr 1
    omega
theorem clockB_head (a : Nat) (h : a ≤ 604799) (tail : List UInt8) : ∃ c r, clockB a ++ tail = c :: r ∧ isDig c = true := by
  obtain ⟨d1, d2, d3, d4⟩ := hours_ok (a / 3600) (by omega)
  unfold clockB
  match hq : digsN 20 (a / 3600), d3 with
  | c :: q, _ =>
    rw [hq] at d1
    simp only [List.all_cons, Bool.and_eq_true] at d1
    exact ⟨c, _, rfl, d1.1⟩
theorem time_clock (sec : Int) (h : -604799 ≤ sec ∧ sec ≤ 604799) (tail : List UInt8) (ht : ∀ c, tail.head? = some c → isDig c = false ∧ c ≠ 58) : timeL ((clockL sec).1 ++ tail) = (sec, tail, true) := by
  unfold clockL
  rw [if_pos h]
  by_cases h0 : sec < 0
  · simp only [if_pos h0]
    rw [time_body sec.natAbs (by omega) tail ht (-1) _ (by simp [signL])]
    congr 1
    omega
  · simp only [if_neg h0, List.nil_append]
    obtain ⟨c, r, e, hc⟩ := clockB_head sec.natAbs (by omega) tail
    have hc' : c ≠ 45 ∧ c ≠ 43 := by constructor <;> (rintro rfl; exact absurd hc (by decide))
    rw [time_body sec.natAbs (by omega) tail ht 1 _ (by rw [e]; simp [signL, hc'])]
    congr 1
    omega

/-! ### What is behind a time is an end of the text -/
theorem sixty_drop (l : List UInt8) : ∃ j, j ≤ l.length ∧ (sixtyL l).2.1 = l.drop j := by
  unfold sixtyL
  split
  · split
    · exact ⟨3, by simp, rfl⟩
    · exact ⟨0, by simp, rfl⟩
  · exact ⟨0, by simp, rfl⟩
theorem sign_drop (l : List UInt8) : ∃ j, j ≤ l.length ∧ (signL l).2 = l.drop j ∧ ((signL l).1 = 1 ∨ (signL l).1 = -1) := by
  unfold signL
  split
  · exact ⟨0, by simp, rfl, .inl rfl⟩
  · split
    · exact ⟨1, by simp, rfl, .inr rfl⟩
    · split
      · exact ⟨1, by simp, rfl, .inl rfl⟩
      · exact ⟨0, by simp, rfl, .inl rfl⟩
theorem time_drop (l : List UInt8) : ∃ j, j ≤ l.length ∧ (timeL l).2.1 = l.drop j ∧ ((timeL l).2.2 = true ↔ 0 < j) ∧ -604799 ≤ (timeL l).1 ∧ (timeL l).1 ≤ 604799 ∧ ((timeL l).2.2 = false → (timeL l).1 = 0 ∧ j = 0) := by
  obtain ⟨j0, h0, e0, hs⟩ := sign_drop l
  unfold timeL
  by_cases hd : dl (signL l).2 = 0
  · rw [if_pos hd]
    exact ⟨0, by omega, by simp, by simp, by simp, by simp, by simp⟩
  · rw [if_neg hd]
    obtain ⟨b1, b2, b3, b4⟩ := hour_bd (signL l).2
    have b4' := b4 hd
    have hdl := dl_le (signL l).2
    obtain ⟨j1, h1, e1⟩ := sixty_drop ((signL l).2.drop (hourL (signL l).2).2)
    have s1 := sixty_bd ((signL l).2.drop (hourL (signL l).2).2)
    have key : ∃ j2, j2 ≤ (sixtyL ((signL l).2.drop (hourL (signL l).2).2)).2.1.length ∧ (moreL (sixtyL ((signL l).2.drop (hourL (signL l).2).2))).2.1 = (sixtyL ((signL l).2.drop (hourL (signL l).2).2)).2.1.drop j2 ∧
        0 ≤ (moreL (sixtyL ((signL l).2.drop (hourL (signL l).2).2))).1 ∧ (moreL (sixtyL ((signL l).2.drop (hourL (signL l).2).2))).1 ≤ 59 := by
      unfold moreL
      split
      · obtain ⟨j2, h2, e2⟩ := sixty_drop (sixtyL ((signL l).2.drop (hourL (signL l).2).2)).2.1
        exact ⟨j2, h2, e2, sixty_bd _⟩
      · exact ⟨0, by omega, rfl, by simp, by simp⟩
    obtain ⟨j2, h2, e2, hb1, hb2⟩ := key
    rw [e2, e1, e0, List.drop_drop, List.drop_drop, List.drop_drop]
    rw [e1] at h2
    rw [e0] at h1 h2 hdl b2
    simp only [List.length_drop] at h1 h2 hdl
    rw [e0] at b4' b3 s1 hb1 hb2
    refine ⟨_, ?_, rfl, ?_, ?_⟩
    · omega
    · simp; omega
    · generalize (sixtyL (List.drop (hourL (List.drop j0 l)).2 (List.drop j0 l))).1 = x at *
      generalize (moreL (sixtyL (List.drop (hourL (List.drop j0 l)).2 (List.drop j0 l)))).1 = y at *
      rw [e0] at b1
      generalize (hourL (List.drop j0 l)).1 = v at *
      rcases hs with hs | hs <;> rw [hs] <;> refine ⟨?_, ?_, by simp⟩ <;> omega

end Go.Proofs.YtcopbcfekmbhlaaDoor.Pl
end
section
set_option linter.unusedVariables false
set_option linter.unusedSimpArgs false
namespace Go.Proofs.YtcopbcfekmbhlaaDoor.Pl
open Go
set_option linter.unusedVariables false
set_option linter.unusedSimpArgs false

/-- A leap year. -/
def leapY (y : Int) : Bool := decide (y % 4 = 0 ∧ (y % 100 ≠ 0 ∨ y % 400 = 0))
/-- The number of a year's first day. -/
def fst (y : Int) : Int := 365 * (y - 1) + (y - 1) / 4 - (y - 1) / 100 + (y - 1) / 400 - 719162
/-- How many days of a common year lie ahead of a month. -/
def cum0 (m : Int) : Int := if m = 1 then 0 else if m = 2 then 31 else if m = 3 then 59 else if m = 4 then 90 else if m = 5 then 120 else if m = 6 then 151 else if m = 7 then 181 else if m = 8 then 212 else if m = 9 then 243 else if m = 10 then 273 else if m = 11 then 304 else if m = 12 then 334 else 365
def cum (y m : Int) : Int := cum0 m + if 2 < m ∧ leapY y = true then 1 else 0
def dim (y m : Int) : Int := if m = 2 then (if leapY y = true then 29 else 28) else if m = 4 then 30 else if m = 6 then 30 else if m = 9 then 30 else if m = 11 then 30 else 31
/-- The number of a date. -/
def num (y m d : Int) : Int := fst y + cum y m + d - 1
/-- A date. -/
def Vld (y m d : Int) : Prop := 1 ≤ y ∧ y ≤ 9999 ∧ 1 ≤ m ∧ m ≤ 12 ∧ 1 ≤ d ∧ d ≤ dim y m

theorem leapY_iff (y : Int) : leapY y = true ↔ (y % 4 = 0 ∧ (y % 100 ≠ 0 ∨ y % 400 = 0)) := by unfold leapY; exact decide_eq_true_iff
theorem month_cases {m : Int} (h1 : 1 ≤ m) (h2 : m ≤ 12) : m = 1 ∨ m = 2 ∨ m = 3 ∨ m = 4 ∨ m = 5 ∨ m = 6 ∨ m = 7 ∨ m = 8 ∨ m = 9 ∨ m = 10 ∨ m = 11 ∨ m = 12 := by omega
theorem dim_bd (y m : Int) : 28 ≤ dim y m ∧ dim y m ≤ 31 := by unfold dim; repeat' split <;> omega
theorem fst_succ (y : Int) : fst (y + 1) = fst y + 365 + if leapY y = true then 1 else 0 := by
  have := leapY_iff y
  unfold fst
  by_cases h : leapY y = true
  · rw [if_pos h]; have := this.1 h; omega
  · rw [if_neg h]
    have h' : ¬ (y % 4 = 0 ∧ (y % 100 ≠ 0 ∨ y % 400 = 0)) := fun z => h (this.2 z)
    omega
theorem cum_succ (y m : Int) (h1 : 1 ≤ m) (h2 : m ≤ 12) : cum y m + dim y m = if m = 12 then 365 + (if leapY y = true then 1 else 0) else cum y (m + 1) := by
  rcases month_cases h1 h2 with rfl | rfl | rfl | rfl | rfl | rfl | rfl | rfl | rfl | rfl | rfl | rfl <;>
    cases hl : leapY y <;> simp [cum, cum0, dim, hl]
theorem num_bd {y m d : Int} (h : Vld y m d) : fst y ≤ num y m d ∧ num y m d < fst (y + 1) := by
  obtain ⟨_, _, h1, h2, h3, h4⟩ := h
  rw [fst_succ]
  unfold num
  rcases month_cases h1 h2 with rfl | rfl | rfl | rfl | rfl | rfl | rfl | rfl | rfl | rfl | rfl | rfl <;>
    cases hl : leapY y <;> simp [cum, cum0, dim, hl] at h4 ⊢ <;> omega
theorem fst_bd {y : Int} (h1 : 1 ≤ y) (h2 : y ≤ 9999) : -719162 ≤ fst y ∧ fst (y + 1) ≤ 2932897 := by unfold fst; omega
theorem fst_le {y z : Int} (h : y ≤ z) : fst y ≤ fst z := by unfold fst; omega
theorem num_range {y m d : Int} (h : Vld y m d) : -719162 ≤ num y m d ∧ num y m d ≤ 2932896 := by
  have := num_bd h
  have := fst_bd h.1 h.2.1
  omega

/-! ### Years that begin with March -/
/-- A date's year and month, so counted. -/
def sy (y m : Int) : Int := if m < 3 then y - 1 else y
def sm (m : Int) : Int := if m < 3 then m + 12 else m
/-- The program's own formula. -/
def numP (y m d : Int) : Int := 146097 * (sy y m / 400) + 365 * (sy y m % 400) + (sy y m % 400) / 4 - (sy y m % 400) / 100 + ((153 * (sm m - 3) + 2) / 5 + d - 1) - 719468
theorem numP_eq {y m d : Int} (h1 : 1 ≤ m) (h2 : m ≤ 12) : numP y m d = num y m d := by
  have hl := leapY_iff y
  have key : ∀ b : Bool, leapY y = b → numP y m d = num y m d := by
    intro b hb
    cases b with
    | true =>
      have hl' := hl.1 hb
      rcases month_cases h1 h2 with rfl | rfl | rfl | rfl | rfl | rfl | rfl | rfl | rfl | rfl | rfl | rfl <;>
        simp [numP, num, fst, cum, cum0, sy, sm, hb] <;> omega
    | false =>
      have hl' : ¬ (y % 4 = 0 ∧ (y % 100 ≠ 0 ∨ y % 400 = 0)) := fun z => by rw [hl.2 z] at hb; cases hb
      rcases month_cases h1 h2 with rfl | rfl | rfl | rfl | rfl | rfl | rfl | rfl | rfl | rfl | rfl | rfl <;>
        simp [numP, num, fst, cum, cum0, sy, sm, hb] <;> omega
  exact key _ rfl

/-- The first day of March-year b of an era. -/
def st (b : Int) : Int := 365 * b + b / 4 - b / 100
def gy (o : Int) : Int := o - o / 1460 + o / 36524 - o / 146096
theorem gy_mono {a b : Int} (h0 : 0 ≤ a) (h : a ≤ b) (hb : b ≤ 146096) : gy a ≤ gy b := by unfold gy; omega
theorem ends : ∀ n : Nat, n < 400 → (gy (st n) / 365 = n ∧ gy (st (n + 1) - (if n = 399 then 0 else 1)) / 365 = n) := by decide +kernel
theorem st_400 : st 399 + 365 = 146096 := by decide
/-- The year of a day of an era. -/
theorem year_of {o b : Int} (h0 : 0 ≤ b) (h1 : b < 400) (h2 : st b ≤ o) (h3 : o < st (b + 1) ∨ (b = 399 ∧ o ≤ 146096)) : gy o / 365 = b := by
  obtain ⟨n, rfl⟩ := Int.eq_ofNat_of_zero_le h0
  obtain ⟨e1, e2⟩ := ends n (by omega)
  have hs0 : 0 ≤ st n := by unfold st; omega
  have hs1 : st (n + 1) ≤ 146097 := by unfold st; omega
  by_cases hn : n = 399
  · subst hn
    have hm : st ((399 : Nat) + 1) = 146096 := by decide
    rw [if_pos rfl, hm] at e2
    have ho : o ≤ 146096 := by
      rcases h3 with h3 | h3
      · have : ((399 : Nat) : Int) + 1 = 400 := rfl
        rw [this] at h3; have : st 400 = 146096 := by decide
        omega
      · exact h3.2
    have g1 := gy_mono hs0 h2 ho
    have g2 := gy_mono (by omega : 0 ≤ o) ho (Int.le_refl _)
    simp only [Int.sub_zero] at e2
    omega
  · rw [if_neg hn] at e2
    have ho : o ≤ st (n + 1) - 1 := by
      rcases h3 with h3 | h3
      · omega
      · omega
    have g1 := gy_mono hs0 h2 (by omega)
    have g2 := gy_mono (by omega : 0 ≤ o) ho (by omega)
    omega

/-- The program's own date of a number. -/
def era (n : Int) : Int := (n + 719468) / 146097
def ofE (n : Int) : Int := (n + 719468) % 146097
def yrs (n : Int) : Int := gy (ofE n) / 365
def doy (n : Int) : Int := ofE n - st (yrs n)
def mon (n : Int) : Int := (5 * doy n + 2) / 153
def dayP (n : Int) : Int := doy n - (153 * mon n + 2) / 5 + 1
def monP (n : Int) : Int := if mon n + 3 > 12 then mon n + 3 - 12 else mon n + 3
def yearP (n : Int) : Int := 400 * era n + (if mon n + 3 > 12 then yrs n + 1 else yrs n)

theorem date_num' {y m d : Int} (h : Vld y m d) : (0 ≤ doy (num y m d) ∧ doy (num y m d) ≤ 365) ∧ yearP (num y m d) = y ∧ monP (num y m d) = m ∧ dayP (num y m d) = d := by
  obtain ⟨a1, a2, h1, h2, h3, h4⟩ := h
  have hl := leapY_iff y
  rw [← numP_eq h1 h2]
  have hb : 0 ≤ sy y m % 400 ∧ sy y m % 400 < 400 := by omega
  have hdoy : 0 ≤ (153 * (sm m - 3) + 2) / 5 + d - 1 ∧ st (sy y m % 400) + ((153 * (sm m - 3) + 2) / 5 + d - 1) ≤ 146096 ∧
      (st (sy y m % 400) + ((153 * (sm m - 3) + 2) / 5 + d - 1) < st (sy y m % 400 + 1) ∨ sy y m % 400 = 399) := by
    unfold st
    cases hb' : leapY y with
    | true =>
      have hl' := hl.1 hb'
      rcases month_cases h1 h2 with rfl | rfl | rfl | rfl | rfl | rfl | rfl | rfl | rfl | rfl | rfl | rfl <;>
        simp [sy, sm, dim, hb'] at h4 ⊢ <;> omega
    | false =>
      have hl' : ¬ (y % 4 = 0 ∧ (y % 100 ≠ 0 ∨ y % 400 = 0)) := fun z => by rw [hl.2 z] at hb'; cases hb'
      rcases month_cases h1 h2 with rfl | rfl | rfl | rfl | rfl | rfl | rfl | rfl | rfl | rfl | rfl | rfl <;>
        simp [sy, sm, dim, hb'] at h4 ⊢ <;> omega
  have hst0 : 0 ≤ st (sy y m % 400) := by unfold st; omega
  have hN : numP y m d + 719468 = 146097 * (sy y m / 400) + (st (sy y m % 400) + ((153 * (sm m - 3) + 2) / 5 + d - 1)) := by unfold numP st; omega
  have hera : era (numP y m d) = sy y m / 400 := by unfold era; omega
  have hof : ofE (numP y m d) = st (sy y m % 400) + ((153 * (sm m - 3) + 2) / 5 + d - 1) := by unfold ofE; omega
  have hyrs : yrs (numP y m d) = sy y m % 400 := by
    unfold yrs
    rw [hof]
    refine year_of hb.1 hb.2 (by omega) ?_
    rcases hdoy.2.2 with h | h
    · exact .inl h
    · exact .inr ⟨h, hdoy.2.1⟩
  have hdy : doy (numP y m d) = (153 * (sm m - 3) + 2) / 5 + d - 1 := by unfold doy; rw [hof, hyrs]; omega
  have hdd := dim_bd y m
  have hmon : mon (numP y m d) = sm m - 3 := by
    unfold mon
    rw [hdy]
    rcases month_cases h1 h2 with rfl | rfl | rfl | rfl | rfl | rfl | rfl | rfl | rfl | rfl | rfl | rfl <;>
      simp [sm, dim] at h4 ⊢ <;> omega
  refine ⟨?_, ?_, ?_, ?_⟩
  · rw [hdy]
    rcases month_cases h1 h2 with rfl | rfl | rfl | rfl | rfl | rfl | rfl | rfl | rfl | rfl | rfl | rfl <;>
      simp [sm, dim] at h4 ⊢ <;> omega
  · unfold yearP
    rw [hera, hyrs, hmon]
    rcases month_cases h1 h2 with rfl | rfl | rfl | rfl | rfl | rfl | rfl | rfl | rfl | rfl | rfl | rfl <;>
      simp [sm, sy] <;> omega
  · unfold monP
    rw [hmon]
    rcases month_cases h1 h2 with rfl | rfl | rfl | rfl | rfl | rfl | rfl | rfl | rfl | rfl | rfl | rfl <;> simp [sm]
  · unfold dayP
    rw [hdy, hmon]
    omega
theorem date_num {y m d : Int} (h : Vld y m d) : yearP (num y m d) = y ∧ monP (num y m d) = m ∧ dayP (num y m d) = d := (date_num' h).2

/-! ### Each number is a date's -/
theorem year_ex (n : Int) (h0 : fst 1 ≤ n) : ∀ k : Nat, n < fst (1 + k) → ∃ y : Int, 1 ≤ y ∧ y ≤ k ∧ fst y ≤ n ∧ n < fst (y + 1)
  | 0, h => by simp at h; omega
  | k + 1, h => by
    by_cases h1 : n < fst (1 + k)
    · obtain ⟨y, a, b, c, d⟩ := year_ex n h0 k h1
      exact ⟨y, a, by omega, c, d⟩
    · exact ⟨1 + k, by omega, by omega, by omega, by have e : ((k + 1 : Nat) : Int) = (k : Int) + 1 := rfl; rw [e] at h; rw [Int.add_assoc]; exact h⟩
theorem cum_mono (y m : Int) (h1 : 1 ≤ m) (h2 : m < 12) : cum y m + 28 ≤ cum y (m + 1) := by
  have := cum_succ y m h1 (by omega)
  rw [if_neg (by omega)] at this
  have := dim_bd y m
  omega
theorem month_ex (y r : Int) (h0 : 0 ≤ r) : ∀ k : Nat, k < 12 → r < cum y (1 + k) → ∃ m : Int, 1 ≤ m ∧ m ≤ k ∧ cum y m ≤ r ∧ r < cum y (m + 1)
  | 0, _, h => by simp [cum, cum0] at h; omega
  | k + 1, hk, h => by
    by_cases h1 : r < cum y (1 + k)
    · obtain ⟨m, a, b, c, d⟩ := month_ex y r h0 k (by omega) h1
      exact ⟨m, a, by omega, c, d⟩
    · exact ⟨1 + k, by omega, by omega, by omega, by have e : ((k + 1 : Nat) : Int) = (k : Int) + 1 := rfl; rw [e] at h; rw [Int.add_assoc]; exact h⟩
theorem date_ex {n : Int} (h0 : -719162 ≤ n) (h1 : n ≤ 2932896) : ∃ y m d, Vld y m d ∧ num y m d = n := by
  obtain ⟨y, a, b, c, e⟩ := year_ex n (by have : fst 1 = -719162 := by decide
                                          omega) 9999 (by have : fst (1 + (9999 : Nat)) = 2932897 := by decide
                                                          omega)
  rw [fst_succ] at e
  by_cases h : n - fst y < cum y 12
  · obtain ⟨m, a', b', c', e'⟩ := month_ex y (n - fst y) (by omega) 11 (by omega) h
    have hs := cum_succ y m a' (by omega)
    rw [if_neg (by omega)] at hs
    exact ⟨y, m, n - fst y - cum y m + 1, ⟨a, by omega, a', by omega, by omega, by omega⟩, by unfold num; omega⟩
  · have hs := cum_succ y 12 (by omega) (by omega)
    rw [if_pos rfl] at hs
    exact ⟨y, 12, n - fst y - cum y 12 + 1, ⟨a, by omega, by omega, by omega, by omega, by omega⟩, by unfold num; omega⟩
theorem num_date {n : Int} (h0 : -719162 ≤ n) (h1 : n ≤ 2932896) : Vld (yearP n) (monP n) (dayP n) ∧ num (yearP n) (monP n) (dayP n) = n := by
  obtain ⟨y, m, d, hv, rfl⟩ := date_ex h0 h1
  obtain ⟨e1, e2, e3⟩ := date_num hv
  rw [e1, e2, e3]
  exact ⟨hv, rfl⟩
theorem doy_bd {n : Int} (h0 : -719162 ≤ n) (h1 : n ≤ 2932896) : 0 ≤ doy n ∧ doy n ≤ 365 := by
  obtain ⟨y, m, d, hv, rfl⟩ := date_ex h0 h1
  exact (date_num' hv).1
theorem num_inj {y m d y' m' d' : Int} (h : Vld y m d) (h' : Vld y' m' d') (e : num y m d = num y' m' d') : y = y' ∧ m = m' ∧ d = d' := by
  have a := date_num h
  have b := date_num h'
  rw [e] at a
  exact ⟨a.1.symm.trans b.1, a.2.1.symm.trans b.2.1, a.2.2.symm.trans b.2.2⟩
/-- A day's place in the week, from Sunday on. -/
def wk (n : Int) : Int := (n + 4) % 7

end Go.Proofs.YtcopbcfekmbhlaaDoor.Pl
end
