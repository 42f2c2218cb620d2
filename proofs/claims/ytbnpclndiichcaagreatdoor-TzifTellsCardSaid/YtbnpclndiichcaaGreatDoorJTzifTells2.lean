/- What the functions come to in plain data, with proofs, and what that answers. -/
import Derived.Test.YtbnpclndiichcaaGreatDoorJTzifTells1
section
set_option linter.unusedVariables false
set_option linter.unusedSimpArgs false
namespace Go.Proofs.YtbnpclndiichcaaGreatDoor.Pl
open Go Go.Proofs.YtbnpclndiichcaaGreatDoor.Eng
theorem w64_cong {a b:Int} (h:a % 18446744073709551616=b % 18446744073709551616):w64 a=w64 b:=by
 simp only [w64,IntKind.wrap,IntKind.bits,IntKind.signed]
 simp
 rw [h]
theorem w64_self (a:Int):w64 a % 18446744073709551616=a % 18446744073709551616:=by
 simp only [w64,IntKind.wrap,IntKind.bits,IntKind.signed]
 simp
 split <;> omega
theorem or_byte (n:Int) (c:Nat) (hc:c < 256):w64 (((BitVec.ofInt 64 (w64 (n * 256)) ||| BitVec.ofInt 64 (w64 (c:Int))).toNat:Nat):Int)=w64 (n * 256+c):=by
 refine w64_cong ?_
 have ea:(BitVec.ofInt 64 (w64 (n * 256))).toNat=256 * ((n % 72057594037927936).toNat):=by
  rw [BitVec.toNat_ofInt]
  have:=w64_self (n * 256)
  have e2:((2 ^ 64:Nat):Int)=18446744073709551616:=by decide
  rw [e2,this]
  omega
 have eb:(BitVec.ofInt 64 (w64 (c:Int))).toNat=c:=by
  rw [BitVec.toNat_ofInt]
  have:=w64_self (c:Int)
  have e2:((2 ^ 64:Nat):Int)=18446744073709551616:=by decide
  rw [e2,this]
  omega
 rw [BitVec.toNat_or,ea,eb]
 have:=Nat.two_pow_add_eq_or_of_lt (i:=8) (b:=c) (by omega) ((n % 72057594037927936).toNat)
 rw [show (256:Nat)=2 ^ 8 by decide,← this]
 have e8:(2:Nat) ^ 8=256:=by decide
 rw [e8]
 omega
theorem ub_snoc:∀ (d:List UInt8) (c:UInt8),ub (d++[c])=ub d * 256+c.toNat
 | [],c=>by simp [ub]
 | a :: r,c=>by
  rw [List.cons_append,ub,ub,ub_snoc r c,List.length_append,List.length_singleton,Int.pow_succ,Int.add_mul,Int.mul_assoc,Int.add_assoc]
def accN (k:Nat) (d:List UInt8):Int :=
 if k=8 then w64 (ub d) else if k=4 then ub d - (if 128≤(d.headD 0).toNat then (256:Int) ^ d.length else 0) else ub d
theorem acc1 (d:List UInt8):accN 1 d=ub d:=rfl
theorem acc4 (d:List UInt8):accN 4 d=ub d - (if 128≤(d.headD 0).toNat then (256:Int) ^ d.length else 0):=rfl
theorem acc8 (d:List UInt8):accN 8 d=w64 (ub d):=rfl
theorem acc_nil (k:Nat):accN k []=0:=by
 unfold accN
 split
 ·rfl
 ·split
  ·rfl
  ·rfl
theorem acc_first4 (c:UInt8):w64 (IntKind.wrap IntKind.i8 (c.toNat:Int))=accN 4 [c]:=by
 have:=c.toNat_lt
 rw [acc4]
 simp only [w64,IntKind.wrap,IntKind.bits,IntKind.signed,ub]
 simp
 split <;> split <;> omega
theorem acc_step {k:Nat} (hk:k=1∨k=4∨k=8) {d:List UInt8} {c:UInt8} (hl:d.length < k) (h4:k=4→d≠[]):w64 (accN k d * 256+c.toNat)=accN k (d++[c]):=by
 have hc:=c.toNat_lt
 have hu:=ub_rng d
 rcases hk with rfl | rfl | rfl
 ·have:d=[]:=List.eq_nil_of_length_eq_zero (by omega)
  subst this
  rw [acc1,acc1,ub_snoc]
  simp only [ub]
  rw [w64_in (by omega) (by omega)]
 ·rw [acc4,acc4,ub_snoc]
  cases d with
  | nil=>exact absurd rfl (h4 rfl)
  | cons a r =>
   have hp:(256:Int) ^ (a :: r).length≤16777216:=by
    have:(a :: r).length=1∨(a :: r).length=2∨(a :: r).length=3:=by simp only [List.length_cons] at hl ⊢; omega
    rcases this with e | e | e <;> rw [e] <;> decide
   have hp0:=pow_pos (a :: r).length
   rw [List.cons_append,List.headD_cons,List.headD_cons,List.length_cons,List.length_cons,List.length_append,List.length_singleton]
   rw [List.length_cons] at hu hp hp0
   rw [Int.pow_succ (256:Int) (r.length+1)]
   by_cases ha:128≤a.toNat
   ·rw [if_pos ha,if_pos ha,w64_in (by omega) (by omega)]; omega
   ·rw [if_neg ha,if_neg ha,w64_in (by omega) (by omega)]; omega
 ·rw [acc8,acc8,ub_snoc]
  refine w64_cong ?_
  have:=w64_self (ub d)
  omega
theorem acc_num {k:Nat} (hk:k=1∨k=4∨k=8) {d:List UInt8} (hl:d.length=k):accN k d=numB d:=by
 have hu:=ub_rng d
 rcases hk with rfl | rfl | rfl
 ·rw [acc1]
  unfold numB
  rw [if_pos hl]
 ·rw [acc4]
  unfold numB
  rw [hl] at hu ⊢
  cases d with
  | nil=>simp at hl
  | cons a r =>
   have hr:=ub_rng r
   have hrl:r.length=3:=by simpa using hl
   rw [List.headD_cons]
   rw [hrl] at hr
   rw [ub,hrl] at hu ⊢
   have ha:=a.toNat_lt
   simp only [show ((256:Int) ^ 4)=4294967296 by decide,show ((256:Int) ^ 3)=16777216 by decide] at hr hu ⊢
   by_cases h1:128≤a.toNat
   ·rw [if_pos h1,if_neg (by decide),if_pos (by omega)]
   ·rw [if_neg h1,if_neg (by decide),if_neg (by omega)]; omega
 ·rw [acc8]
  unfold numB
  rw [hl] at hu ⊢
  simp only [show ((256:Int) ^ 8)=18446744073709551616 by decide] at *
  rw [if_neg (by decide)]
  simp only [w64,IntKind.wrap,IntKind.bits,IntKind.signed]
  simp
  split <;> split <;> omega
end Go.Proofs.YtbnpclndiichcaaGreatDoor.Pl
end
section
set_option linter.unusedVariables false
set_option linter.unusedSimpArgs false
namespace Go.Proofs.YtbnpclndiichcaaGreatDoor.Pl
open Go Go.Proofs.YtbnpclndiichcaaGreatDoor.Eng
theorem or_u {n:Int} (hn:0≤n∧n < 72057594037927936) (c:Nat) (hc:c < 256):wu64 (((BitVec.ofInt 64 (wu64 (n * 256)) ||| BitVec.ofInt 64 (wu64 (c:Int))).toNat:Nat):Int)=n * 256+c:=by
 rw [wu64_in (n:=n * 256) (by omega) (by omega),wu64_in (n:=(c:Int)) (by omega) (by omega)]
 have e2:((2 ^ 64:Nat):Int)=18446744073709551616:=by decide
 have ea:(BitVec.ofInt 64 (n * 256)).toNat=256 * n.toNat:=by
  rw [BitVec.toNat_ofInt,e2]
  omega
 have eb:(BitVec.ofInt 64 (c:Int)).toNat=c:=by
  rw [BitVec.toNat_ofInt,e2]
  omega
 rw [BitVec.toNat_or,ea,eb]
 have:=Nat.two_pow_add_eq_or_of_lt (i:=8) (b:=c) (by omega) n.toNat
 rw [show (256:Nat)=2 ^ 8 by decide,← this]
 have e8:(2:Nat) ^ 8=256:=by decide
 rw [e8,wu64_in (by omega) (by omega)]
 omega
theorem num_fin4 {l:List UInt8} (hl:l.length=4):w64 (wi32 (wu32 (ub l)))=numB l:=by
 have hu:=ub_rng l
 rw [hl] at hu
 have hp:(256:Int) ^ 4=4294967296:=by decide
 rw [wu32_in (by omega) (by omega)]
 unfold numB
 rw [hl,if_neg (by decide)]
 have hw:wi32 (ub l)=if 4294967296≤2 * ub l then ub l - 4294967296 else ub l:=by
  simp only [wi32,IntKind.wrap,IntKind.bits,IntKind.signed]
  simp
  split <;> split <;> omega
 rw [hw,hp]
 split <;> exact w64_in (by omega) (by omega)
theorem num_fin {k:Nat} (hk:k=1∨k=8) {l:List UInt8} (hl:l.length=k):w64 (ub l)=numB l:=by
 rcases hk with rfl | rfl
 ·have hu:=ub_rng l
  rw [hl] at hu
  rw [← acc_num (.inl rfl) hl,acc1,w64_in (by omega) (by omega)]
 ·rw [← acc_num (.inr (.inr rfl)) hl,acc8]
end Go.Proofs.YtbnpclndiichcaaGreatDoor.Pl
end
section
set_option linter.unusedVariables false
set_option linter.unusedSimpArgs false
namespace Go.Proofs.YtbnpclndiichcaaGreatDoor.Pl
open Go Go.Proofs.YtbnpclndiichcaaGreatDoor.Eng
theorem all_zero {l:List UInt8} (h:l.all (· == 0)=true):l=List.replicate l.length 0:=by
 refine List.eq_replicate_iff.2 ⟨rfl,fun c hc=>?_⟩
 exact eq_of_beq (List.all_eq_true.1 h c hc)
theorem be4_at {b:List UInt8} {a:Nat} (h:a+4≤b.length):be 4 (numB ((b.drop a).take 4))=(b.drop a).take 4:=by
 have hl:((b.drop a).take 4).length=4:=by rw [List.length_take,List.length_drop]; omega
 have:=be_num (l:=(b.drop a).take 4) (.inr (.inl hl))
 rwa [hl] at this
theorem num_1 (c:UInt8):numB [c]=(c.toNat:Int):=by
 unfold numB; simp [ub]
theorem take1_at {b:List UInt8} {a:Nat} (h:a < b.length):(b.drop a).take 1=[b[a]]:=by
 rw [List.drop_eq_getElem_cons h]; rfl
theorem head_take {b:List UInt8} (h:(headD b).2=true):headE (headD b).1=b.take 44:=by
 unfold headD at h ⊢
 split at h
 case isFalse=>cases h
 rename_i q
 rw [if_pos q]
 obtain ⟨q1,q2,q3,q4⟩:=q
 have ok:=(head_ok q4).v
 have z:=all_zero q3
 rw [List.length_take,List.length_drop,show min 15 (b.length - 5)=15 by omega] at z
 have e:b.take 44=b.take 4++((b.drop 4).take 1++((b.drop 5).take 15++((b.drop 20).take 4++((b.drop 24).take 4++((b.drop 28).take 4++((b.drop 32).take 4++((b.drop 36).take 4++(b.drop 40).take 4))))))):=by
  have t:=fun (a i j:Nat)=>(List.take_add (l:=b.drop a) (i:=i) (j:=j))
  have e0:b.take 44=b.take 4++(b.drop 4).take 40:=List.take_add (i:=4) (j:=40)
  rw [e0,t 4 1 39,List.drop_drop,t 5 15 24,List.drop_drop,t 20 4 20,List.drop_drop,t 24 4 16,List.drop_drop,t 28 4 12,List.drop_drop,t 32 4 8,List.drop_drop,t 36 4 4,List.drop_drop]
 rw [e,q2,z]
 unfold headE headG
 simp only [be4_at (show 20+4≤b.length by omega),be4_at (show 24+4≤b.length by omega),be4_at (show 28+4≤b.length by omega),be4_at (show 32+4≤b.length by omega),be4_at (show 36+4≤b.length by omega),be4_at (show 40+4≤b.length by omega)]
 have ev:(headG b).v=versR (numB ((b.drop 4).take 1)):=rfl
 rw [ev,take1_at (show 4 < b.length by omega),num_1] at ok
 rw [take1_at (show 4 < b.length by omega),num_1]
 congr 2
 unfold versR at ok ⊢
 have hc:=(b[4]'(by omega)).toNat_lt
 by_cases c0:((b[4]'(by omega)).toNat:Int)=0
 ·rw [if_pos c0,if_neg (by decide)]
  congr 1
  exact (UInt8.toNat_inj.1 (show (b[4]'(by omega)).toNat=0 by omega)).symm
 ·rw [if_neg c0] at ok ⊢
  by_cases c1:(50:Int)≤((b[4]'(by omega)).toNat:Int)∧((b[4]'(by omega)).toNat:Int)≤52
  ·rw [if_pos c1,if_pos (by omega)]
   congr 1
   have:((48:Int)+(((b[4]'(by omega)).toNat:Int) - 48)).toNat=(b[4]'(by omega)).toNat:=by omega
   rw [this]
   exact UInt8.ofNat_toNat
  ·rw [if_neg c1] at ok; omega
theorem head_iff {b:List UInt8} (h44:44≤b.length) (H:Hd) (hn:H.ut=(headG b).ut∧H.sd=(headG b).sd∧H.lp=(headG b).lp∧H.tr=(headG b).tr∧H.ty=(headG b).ty∧H.ch=(headG b).ch)
  (hv:((b.getD 4 0).toNat:Int) > 48→H.v=((b.getD 4 0).toNat:Int) - 48) (hv':¬ ((b.getD 4 0).toNat:Int) > 48→H.v=1) :
  headD b=if headOk H=true∧headE H=b.take 44 then (H,true) else (hd0,false):=by
 split
 ·rename_i q
  have:=head_back q.1 (b.drop 44)
  rw [q.2,List.take_append_drop] at this
  exact this
 ·rename_i q
  cases hd:(headD b).2
  ·unfold headD at hd ⊢
   split
   ·rename_i w; rw [if_pos w] at hd; cases hd
   ·rfl
  ·exfalso
   apply q
   have ht:=head_take hd
   have hg:headD b=(headG b,true)∧headOk (headG b)=true:=by
    unfold headD at hd ⊢
    split at hd
    ·rename_i w; rw [if_pos w]; exact ⟨rfl,w.2.2.2⟩
    ·cases hd
   have eH:H=headG b:=by
    obtain ⟨n1,n2,n3,n4,n5,n6⟩:=hn
    have ev:(headG b).v=versR (numB ((b.drop 4).take 1)):=rfl
    have ok:=(head_ok hg.2).v
    have g4:b.getD 4 0=b[4]'(by omega):=by rw [List.getD_eq_getElem?_getD,List.getElem?_eq_getElem (by omega)]; rfl
    rw [ev,take1_at (show 4 < b.length by omega),num_1,← g4] at ok
    have hvv:H.v=(headG b).v:=by
     rw [ev,take1_at (show 4 < b.length by omega),num_1,← g4]
     unfold versR at ok ⊢
     by_cases c0:((b.getD 4 0).toNat:Int)=0
     ·rw [if_pos c0,hv' (by omega)]
     ·rw [if_neg c0] at ok ⊢
      by_cases c1:(50:Int)≤((b.getD 4 0).toNat:Int)∧((b.getD 4 0).toNat:Int)≤52
      ·rw [if_pos c1,hv (by omega)]
      ·rw [if_neg c1] at ok; omega
    cases H
    simp only at hvv n1 n2 n3 n4 n5 n6
    rw [hvv,n1,n2,n3,n4,n5,n6]
   rw [eH]
   rw [hg.1] at ht
   exact ⟨hg.2,ht⟩
end Go.Proofs.YtbnpclndiichcaaGreatDoor.Pl
end
section
set_option linter.unusedVariables false
set_option linter.unusedSimpArgs false
namespace Go.Proofs.YtbnpclndiichcaaGreatDoor
open Go Go.Proofs.YtbnpclndiichcaaGreatDoor.Eng Go.Proofs.YtbnpclndiichcaaGreatDoor.Pl
set_option maxRecDepth 100000
set_option maxHeartbeats 2000000
def RV (l:List Rec):List V:=l.map eRec
def TV (l:List Ty):List V:=l.map eTy
theorem RV_len (l:List Rec):(RV l).length=l.length:=by simp [RV]
theorem TV_len (l:List Ty):(TV l).length=l.length:=by simp [TV]
theorem asR1 {l:List Rec} {i:Nat} (h:i < l.length) {F:Prop} {K:Int→Prop} (hk:K (l[i]).1):Eng.asInt .i64 (getC (RV l) i 0) F K:=by
 have:getC (RV l) i 0=some (.c (.int .i64 (l[i]).1)):=by simp [getC,RV,eRec,V.cells,h]
 rw [this]; simpa [Eng.asInt] using hk
theorem asR2 {l:List Rec} {i:Nat} (h:i < l.length) {F:Prop} {K:Int→Prop} (hk:K (l[i]).2):Eng.asInt .i64 (getC (RV l) i 1) F K:=by
 have:getC (RV l) i 1=some (.c (.int .i64 (l[i]).2)):=by simp [getC,RV,eRec,V.cells,h]
 rw [this]; simpa [Eng.asInt] using hk
theorem asT1 {l:List Ty} {i:Nat} (h:i < l.length) {F:Prop} {K:Int→Prop} (hk:K (l[i]).1):Eng.asInt .i64 (getC (TV l) i 0) F K:=by
 have:getC (TV l) i 0=some (.c (.int .i64 (l[i]).1)):=by simp [getC,TV,eTy,V.cells,h]
 rw [this]; simpa [Eng.asInt] using hk
theorem asT2 {l:List Ty} {i:Nat} (h:i < l.length) {F:Prop} {K:Bool→Prop} (hk:K (l[i]).2.1):Eng.asBool (getC (TV l) i 1) F K:=by
 have:getC (TV l) i 1=some (.c (.bool (l[i]).2.1)):=by simp [getC,TV,eTy,V.cells,h]
 rw [this]; simpa [Eng.asBool] using hk
theorem asT3 {l:List Ty} {i:Nat} (h:i < l.length) {F:Prop} {K:ByteArray→Prop} (hk:K (S (l[i]).2.2)):Eng.asStr (getC (TV l) i 2) F K:=by
 have:getC (TV l) i 2=some (.c (.string (S (l[i]).2.2))):=by simp [getC,TV,eTy,V.cells,h]
 rw [this]; simpa [Eng.asStr] using hk
theorem w64_hi {n:Int} (h0:9223372036854775807 < n) (h1:n≤18446744073709551615):w64 n=n - 18446744073709551616:=by
 simp only [w64,IntKind.wrap,IntKind.bits,IntKind.signed]
 try simp
 try omega
theorem w64_lo {n:Int} (h0:-18446744073709551616≤n) (h1:n < -9223372036854775808):w64 n=n+18446744073709551616:=by
 simp only [w64,IntKind.wrap,IntKind.bits,IntKind.signed]
 try simp
 try omega
def i64r (n:Int):Prop:=-9223372036854775808≤n∧n≤9223372036854775807
instance (n:Int):Decidable (i64r n):=inferInstanceAs (Decidable (_∧_))
def recI (l:List Rec):Prop:=∀ c∈l,i64r c.1∧i64r c.2
theorem ssub (a b:Int) (ha:i64r a) (hb:i64r b) {K:Int→Bool→Prop} (h1:i64r (a - b)→K (a - b) true) (h2:¬ i64r (a - b)→K 0 false):Xq3y a b K:=by
 unfold Xq3y Yq3y
 unfold i64r at *
 simp only [lt]
 by_cases e:-9223372036854775808≤a - b∧a - b≤9223372036854775807
 ·rw [w64_in e.1 e.2]
  have:(!decide (a - b < a) == decide (b > 0))=false:=by
   by_cases hb0:b > 0
   ·simp [hb0]; omega
   ·simp [hb0]; omega
  rw [this]
  exact h1 e
 ·by_cases hb0:b > 0
  ·rw [w64_lo (by omega) (by omega)]
   have:(!decide (a - b+18446744073709551616 < a) == decide (b > 0))=true:=by simp [hb0]; omega
   rw [this,if_pos rfl,if_pos (by simp; omega)]
   exact h2 e
  ·rw [w64_hi (by omega) (by omega)]
   have:(!decide (a - b - 18446744073709551616 < a) == decide (b > 0))=true:=by simp [hb0]; omega
   rw [this,if_pos rfl,if_pos (by simp; omega)]
   exact h2 e
theorem recOk_cons (k:Nat) (b c:Rec) (r:List Rec):recOk k b (c :: r)=true↔(k≤200∧0≤c.1∧((c.2 - b.2=0∧r=[])∨c.2 - b.2=1∨c.2 - b.2=-1)∧(k=0∨((c.2 - b.2=0∧r=[])∧c.1 - b.1≥0)∨(¬ (c.2 - b.2=0∧r=[])∧c.1 - b.1≥2419199)))∧recOk (k+1) c r=true:=by
 rw [recOk]
 simp only [Bool.and_eq_true,Bool.or_eq_true,decide_eq_true_eq,List.isEmpty_iff]
 by_cases he:c.2 - b.2=0∧r=[]
 ·simp only [he,and_self,if_true,true_or,true_and,not_true,false_and,or_false]
  constructor
  ·rintro ⟨⟨⟨⟨h1,h2⟩,_⟩,h4⟩,h5⟩; exact ⟨⟨h1,h2,h4⟩,h5⟩
  ·rintro ⟨⟨h1,h2,h4⟩,h5⟩; exact ⟨⟨⟨⟨h1,h2⟩,trivial⟩,h4⟩,h5⟩
 ·simp only [he,false_or,if_false,false_and,not_false_iff,true_and]
  constructor
  ·rintro ⟨⟨⟨⟨h1,h2⟩,h3⟩,h4⟩,h5⟩; exact ⟨⟨h1,h2,h3,h4⟩,h5⟩
  ·rintro ⟨⟨h1,h2,h3,h4⟩,h5⟩; exact ⟨⟨⟨⟨h1,h2⟩,h3⟩,h4⟩,h5⟩
theorem sRecRight (l:List Rec) (hi:recI l) (hlen:l.length≤100000) {K:Bool→Prop} (h:K (recRight l)):Xq2s (RV l) K:=by
 unfold Xq2s Yq2s Xq2k Yq2k
 rw [RV_len]
 refine lp_ind (fun x=>(l.length:Nat) - x.1.2.2.2.2.2.2.1.toNat) (fun x=>∃ (j:Nat) (b:Rec),j≤l.length∧x=((RV l,(0:Int),(0:Int),(),RV l,(l.length:Int),(j:Int),()),(b.1,b.2,()),())∧recOk j b (l.drop j)=recRight l∧(0 < j→0≤b.1)∧i64r b.1∧i64r b.2) ?_ ⟨0,(-2419199,0),by omega,rfl,rfl,by omega,by unfold i64r; decide,by unfold i64r; decide⟩
 rintro x ⟨j,b,hj,rfl,hok,hb0,hb1,hb2⟩ k hk
 unfold Lq2k_0
 simp only [decide_eq_true_eq,RV_len]
 by_cases e:j=l.length
 ·rw [if_neg (by omega)]
  have:recRight l=true:=by rw [← hok,e,List.drop_length]; rfl
  rw [this] at h
  exact h
 ·have hj':j < l.length:=by omega
  obtain ⟨hc1,hc2⟩:=hi l[j] (List.getElem_mem hj')
  rw [Int.toNat_natCast,if_pos (by omega),if_pos (by omega)]
  refine asR1 hj' (asR2 hj' ?_)
  have hd:l.drop j=l[j] :: l.drop (j+1):=List.drop_eq_getElem_cons hj'
  rw [hd] at hok
  have hre:l.drop (j+1)=[]↔j+1=l.length:=by rw [List.drop_eq_nil_iff]; omega
  have hcons:=recOk_cons j b l[j] (l.drop (j+1))
  rw [hre,hok] at hcons
  generalize l[j]=c at *
  have e1:w64 ((j:Int)+1)=((j+1:Nat):Int):=by rw [w64_in (by omega) (by omega)]; omega
  have e2:w64 ((l.length:Int) - 1)=(l.length:Int) - 1:=w64_in (by omega) (by omega)
  have bad:¬ (j≤200∧0≤c.1∧((c.2 - b.2=0∧j+1=l.length)∨c.2 - b.2=1∨c.2 - b.2=-1)∧(j=0∨((c.2 - b.2=0∧j+1=l.length)∧c.1 - b.1≥0)∨(¬ (c.2 - b.2=0∧j+1=l.length)∧c.1 - b.1≥2419199)))→K false:=fun hn=>by
   have:recRight l=false:=by
    cases hr:recRight l
    ·rfl
    ·exact absurd (hcons.1 hr).1 hn
   rw [this] at h; exact h
  have good:(j≤200∧0≤c.1∧((c.2 - b.2=0∧j+1=l.length)∨c.2 - b.2=1∨c.2 - b.2=-1)∧(j=0∨((c.2 - b.2=0∧j+1=l.length)∧c.1 - b.1≥0)∨(¬ (c.2 - b.2=0∧j+1=l.length)∧c.1 - b.1≥2419199))) →
    k ((RV l,(0:Int),(0:Int),(),RV l,(l.length:Int),((j+1:Nat):Int),()),(c.1,c.2,()),()):=fun hg=>by
   refine hk _ ⟨j+1,c,by omega,rfl,?_,fun _=>hg.2.1,hc1,hc2⟩ ?_
   ·rw [Bool.eq_iff_iff]
    exact ⟨fun hr=>hcons.2 ⟨hg,hr⟩,fun hr=>(hcons.1 hr).2⟩
   ·show l.length - ((j+1:Nat):Int).toNat < l.length - ((j:Nat):Int).toNat
    omega
  clear hcons hok hk h hd hre
  rw [e1,e2]
  have ew:0 < j→0≤c.1→w64 (c.1 - b.1)=c.1 - b.1:=fun h1 h2=>by
   have:=hb0 h1
   unfold i64r at *
   exact w64_in (by omega) (by omega)
  refine ssub c.2 b.2 hc2 hb2 (fun hf=>?_) fun hf=>?_
  ·generalize c.2 - b.2=s at *
   simp only [if_true,beq_iff_eq,Bool.not_eq_true',beq_eq_false_iff_ne,ne_eq,bne_iff_ne,not_true,if_false,Bool.not_true,Bool.false_eq_true]
   repeat' split
   all_goals first
    |(refine bad ?_; omega)
    |(refine good ?_; omega)
    |(refine bad ?_; rw [ew (by omega) (by omega)] at *; omega)
    |(refine good ?_; rw [ew (by omega) (by omega)] at *; omega)
  ·simp only [if_true,if_false,Bool.not_false,Bool.false_eq_true]
   unfold i64r at hf
   repeat' split
   all_goals (refine bad ?_; omega)
end Go.Proofs.YtbnpclndiichcaaGreatDoor
end
section
set_option linter.unusedVariables false
set_option linter.unusedSimpArgs false
namespace Go.Proofs.YtbnpclndiichcaaGreatDoor
open Go Go.Proofs.YtbnpclndiichcaaGreatDoor.Eng Go.Proofs.YtbnpclndiichcaaGreatDoor.Pl
theorem sHasPrefix (l:List UInt8) (c:UInt8) {K} (h:K (l.head? == some c)):Xq04 (S l) (S [c]) K:=by
 unfold Xq04 Yq04
 simp only [S_size,S_extract,S_toList,decide_eq_true_eq,ge_iff_le,List.length_singleton]
 cases l with
 | nil=>exact ifF (by simp) h
 | cons a l =>
  refine ifT (by simp; omega) (ifT (by simp; omega) ?_)
  have e:((List.take (Int.toNat (((1:Nat):Int)) - 0) (List.drop 0 (a :: l)) == [c]):Bool)=((a :: l).head? == some c):=by
   simp
  rw [e]; exact h
theorem sCutPrefix (l:List UInt8) (c:UInt8) {K} (h:K (S (cutP c l).1) (cutP c l).2):Xq0u (S l) (S [c]) K:=by
 unfold Xq0u Yq0u Xq05 Yq05
 refine sHasPrefix l c ?_
 unfold cutP at h
 by_cases e:l.head? = some c
 ·rw [if_pos e] at h
  refine ifF (by simp [e]) ?_
  have hl:1≤l.length:=by cases l <;> simp at e ⊢
  simp only [S_size,S_extract,List.length_singleton]
  refine ifT (by omega) (ifT (by omega) ?_)
  have e2:(l.drop (Int.toNat ((1:Nat):Int))).take (Int.toNat (l.length:Int) - Int.toNat ((1:Nat):Int))=l.tail:=by
   rw [List.take_of_length_le (by simp)]; simp
  rw [e2]; exact h
 ·rw [if_neg e] at h
  exact ifT (by simp [e]) h
theorem sIndex (l:List UInt8) (c:UInt8) {K} (h:K (if nl (· == c) l < l.length then (nl (· == c) l:Int) else -1)):Xq0a (S l) (S [c]) K:=by
 unfold Xq0a Yq0a
 simp only [S_size,S_toList,beq_iff_eq,List.length_singleton]
 refine ifF (by decide) (ifC (fun e=>?_) fun _=>ifT rfl (ifT (by decide) ?_))
 ·subst e
  have:nl (· == c) [c]=0:=by rw [nl_cons]; simp
  rw [this] at h; exact h
 ·unfold Xq3o
  rw [indexByte_nl,S_data]
  have:(Eng.bAt (S [c]) 0).toNat.toUInt8=c:=by rw [bAt0]; simp
  rw [this]; exact h
theorem sCut (l:List UInt8) (c:UInt8) (hl:l.length≤140737488351232) {K} (h:K (S (splitL c l).1) (S (splitL c l).2.1) (splitL c l).2.2):Xq2y (S l) (S [c]) K:=by
 unfold Xq2y Yq2y Xq0c Yq0c
 refine sIndex l c ?_
 unfold splitL at h
 simp only [S_size,S_extract,List.length_singleton,decide_eq_true_eq,ge_iff_le]
 by_cases e:nl (· == c) l < l.length
 ·rw [if_pos e] at h
  simp only [if_pos e]
  rw [w64_in (by omega) (by omega)]
  refine ifT (by omega) (ifT (by omega) (ifT (by omega) (ifT (by omega) (ifT (by omega) ?_))))
  have e1:Int.toNat ((nl (· == c) l:Int)+((1:Nat):Int))=nl (· == c) l+1:=by omega
  have e2:Int.toNat ((nl (· == c) l:Int))=nl (· == c) l:=by omega
  rw [e1,e2]
  rw [show (l.drop (nl (· == c) l+1)).take (Int.toNat (l.length:Int) - (nl (· == c) l+1))=l.drop (nl (· == c) l+1) from List.take_of_length_le (by simp)]
  exact h
 ·rw [if_neg e] at h
  simp only [if_neg e]
  exact ifF (by omega) h
theorem sTrimPrefix (l:List UInt8) (c:UInt8) {K} (h:K (S (cutP c l).1)):Xq0s (S l) (S [c]) K:=by
 unfold Xq0s Yq0s Xq03 Yq03
 refine sHasPrefix l c ?_
 unfold cutP at h
 by_cases e:l.head? = some c
 ·rw [if_pos e] at h
  refine ifT (by simp [e]) ?_
  have hl:1≤l.length:=by cases l <;> simp at e ⊢
  simp only [S_size,S_extract,List.length_singleton]
  refine ifT (by omega) (ifT (by omega) ?_)
  have e2:(l.drop (Int.toNat ((1:Nat):Int))).take (Int.toNat (l.length:Int) - Int.toNat ((1:Nat):Int))=l.tail:=by
   rw [List.take_of_length_le (by simp)]; simp
  rw [e2]; exact h
 ·rw [if_neg e] at h
  exact ifF (by simp [e]) h
theorem sIndexFunc {x:Int→(Bool→Prop)→Prop} (q:UInt8→Bool) (hx:∀ (c:UInt8) (K:Bool→Prop),c.toNat < 128→K (q c)→x (c.toNat:Int) K) (hx':∀ (n:Nat) (K:Bool→Prop),128≤n→K true→x (n:Int) K)
  (hq:∀ c:UInt8,128≤c.toNat→q c=true) (l:List UInt8) {K:Int→Prop} (h:K (if nl q l < l.length then (nl q l:Int) else -1)):Yq15 x (S l) true K:=by
 unfold Yq15
 refine lp_ind (fun st=>l.length - st.2.1.2) (fun st=>st.1.2.1=true∧st.2.1.1=S l∧st.2.1.2≤l.length∧∀ c∈l.take st.2.1.2,q c=false) ?_ ⟨rfl,rfl,Nat.zero_le _,by simp⟩
 rintro ⟨⟨⟨_,_⟩,b,r,_,_⟩,⟨s,pos⟩,_⟩ ⟨h1,h2,h3,h4⟩ k hk
 simp only at h1 h2 h3 h4 hk
 subst h1; subst h2
 unfold Lq15_0
 simp only [S_size]
 refine ifC (fun hp=>?_) fun hp=>?_
 ·by_cases hlo:l[pos].toNat < 128
  ·simp only [decode_lo l pos hp hlo]
   refine hx _ _ hlo ?_
   refine ifC (fun hb=>?_) fun hb=>?_
   ·have hn:nl q l=pos:=nl_of q l pos h3 h4 fun _=>by simpa using hb
    rw [hn,if_pos hp] at h; exact h
   ·refine hk _ ⟨rfl,rfl,hp,fun c hc=>?_⟩ (by simp only; omega)
    rw [List.take_add_one,List.mem_append] at hc
    rcases hc with hc | hc
    ·exact h4 c hc
    ·simp [List.getElem?_eq_getElem hp] at hc
     subst hc; simpa using hb
  ·obtain ⟨d1,d2⟩:=decode_hi l pos hp (by omega)
   refine hx' _ _ d1 (ifT rfl ?_)
   have hn:nl q l=pos:=nl_of q l pos h3 h4 fun _=>hq _ (by omega)
   rw [hn,if_pos hp] at h; exact h
 ·have hpos:pos=l.length:=by omega
  have hn:nl q l=l.length:=nl_of q l _ (Nat.le_refl _) (by rw [← hpos]; exact h4) fun h=>by omega
  rw [hn,if_neg (by omega)] at h; exact h
theorem sgood (n:Int) {K} (h:K (decide ((97≤n∧n≤122)∨(65≤n∧n≤90)∨(48≤n∧n≤57)∨n=43∨n=45))):Xq3m n K:=by
 unfold Xq3m Yq3m
 simp only [decide_eq_true_eq,beq_iff_eq,ge_iff_le]
 repeat' (first | refine ifT (by omega) ?_ | refine ifF (by omega) ?_ | refine ifC (fun _=>?_) (fun _=>?_))
 all_goals (refine cast (congrArg K ?_) h; first | (rw [decide_eq_true_eq]; omega) | (rw [decide_eq_false_iff_not]; omega) | (apply Bool.eq_iff_iff.2; rw [decide_eq_true_eq,beq_iff_eq]; omega))
theorem sbad (n:Int) {K} (h:K (!decide ((97≤n∧n≤122)∨(65≤n∧n≤90)∨(48≤n∧n≤57)∨n=43∨n=45))):Xq2m n K:=by
 unfold Xq2m Yq2m
 exact sgood n h
theorem sabbr (l:List UInt8) {K} (h:K (abbrL l)):Xq38 (S l) K:=by
 unfold Xq38 Yq38
 unfold abbrL at h
 simp only [decide_eq_true_eq,ge_iff_le,S_size]
 by_cases e:3≤l.length∧l.length≤16
 ·refine ifT (by omega) (ifT (by omega) ?_)
  unfold Xq0h Yq0h Xq16 Yq16 Xq15
  refine sIndexFunc badC (fun c K hc h=>sbad _ (cast (congrArg K ?_) h)) (fun n K hn h=>sbad _ (cast (congrArg K ?_) h)) (fun c hc=>?_) l ?_
  ·unfold badC; apply Bool.eq_iff_iff.2; simp; omega
  ·symm; simp; omega
  ·unfold badC; simp; omega
  ·rw [decide_eq_true e,Bool.true_and,nl_any] at h
   by_cases e2:nl badC l < l.length
   ·rw [if_pos e2]; rw [decide_eq_true e2] at h
    refine cast (congrArg K ?_) h; simp
   ·rw [if_neg e2]; rw [decide_eq_false e2] at h
    refine cast (congrArg K ?_) h; simp
 ·rw [decide_eq_false e,Bool.false_and] at h
  exact ifC (fun _=>ifF (by omega) h) fun _=>h
end Go.Proofs.YtbnpclndiichcaaGreatDoor
end
section
set_option linter.unusedVariables false
set_option linter.unusedSimpArgs false
namespace Go.Proofs.YtbnpclndiichcaaGreatDoor
open Go Go.Proofs.YtbnpclndiichcaaGreatDoor.Eng Go.Proofs.YtbnpclndiichcaaGreatDoor.Pl
theorem dl_of (l:List UInt8) (k:Nat) (hk:k≤l.length) (h1:∀ c∈l.take k,isDig c=true) (h2:∀ h:k < l.length,isDig l[k]=false):dl l=k:=by
 have:=nl_of (fun c=>!isDig c) l k hk (fun c hc=>by simp [h1 c hc]) (fun h=>by simp [h2 h])
 rw [← this]; unfold nl dl; simp
theorem sdigits (l:List UInt8) {K} (h:K (dl l:Int)):Xq2w (S l) K:=by
 unfold Xq2w Yq2w
 refine lp_ind (fun st=>l.length - st.2.1.2) (fun st=>st.1.1=S l∧st.2.1.1=S l∧st.2.1.2≤l.length∧∀ c∈l.take st.2.1.2,isDig c=true) ?_ ⟨rfl,rfl,Nat.zero_le _,by simp⟩
 rintro ⟨⟨a0,r,_,_⟩,⟨s,pos⟩,_⟩ ⟨h1,h2,h3,h4⟩ k hk
 simp only at h1 h2 h3 h4 hk
 subst h1; subst h2
 unfold Lq2w_0
 simp only [S_size,decide_eq_true_eq,gt_iff_lt]
 refine ifC (fun hp=>?_) fun hp=>?_
 ·by_cases hlo:l[pos].toNat < 128
  ·simp only [decode_lo l pos hp hlo]
   by_cases hd:isDig l[pos]=true
   ·have hd':=hd
    unfold isDig at hd'
    simp at hd'
    refine ifF (by omega) (ifF (by omega) ?_)
    refine hk _ ⟨rfl,rfl,hp,fun c hc=>?_⟩ (by simp only; omega)
    rw [List.take_add_one,List.mem_append] at hc
    rcases hc with hc | hc
    ·exact h4 c hc
    ·simp [List.getElem?_eq_getElem hp] at hc
     subst hc; exact hd
   ·have hn:dl l=pos:=dl_of l pos h3 h4 fun _=>by simpa using hd
    have hd':=hd
    unfold isDig at hd'
    simp at hd'
    rw [hn] at h
    exact ifC (fun _=>h) fun _=>ifT (by omega) h
  ·obtain ⟨d1,d2⟩:=decode_hi l pos hp (by omega)
   have hn:dl l=pos:=dl_of l pos h3 h4 fun _=>by unfold isDig; simp; omega
   rw [hn] at h
   exact ifF (by omega) (ifT (by omega) h)
 ·have hpos:pos=l.length:=by omega
  have hn:dl l=l.length:=dl_of l _ (Nat.le_refl _) (by rw [← hpos]; exact h4) fun h=>by omega
  rw [hn] at h; exact h
theorem satoi (l:List UInt8) (hne:l≠[]) (hd:∀ c∈l,isDig c=true) (hl:l.length≤18) {K} (h:K (valL l:Int) .nilIface):Xatoi (S l) K :=
 ⟨_,by rw [S_size]; exact hl,by rw [S_data]; exact atoi_val l hne hd,h⟩
theorem ssixty (l:List UInt8) {K} (h:K (sixtyL l).1 (S (sixtyL l).2.1) (sixtyL l).2.2):Xq39 (S l) K:=by
 unfold Xq39 Yq39
 simp only [S_size,S_extract,decide_eq_true_eq,gt_iff_lt,bne_iff_ne,ne_eq]
 match l,h with
 | [],h=>exact ifT (by simp) h
 | [_],h=>exact ifT (by simp) h
 | [_,_],h=>exact ifT (by simp) h
 | c :: a :: b :: r,h =>
  have hlen:(c :: a :: b :: r).length=r.length+3:=rfl
  rw [hlen]
  refine ifF (by omega) (ifT (by omega) ?_)
  rw [bAt0,bAt1]
  simp only [sixtyL] at h
  by_cases hc:c=58
  ·subst hc
   refine ifF (by simp) (ifT (by omega) (ifT (by omega) ?_))
   have e1:((58 :: a :: b :: r).drop 1).take (Int.toNat ((r.length+3:Nat):Int) - 1)=a :: b :: r:=by
    rw [List.drop_succ_cons,List.drop_zero,List.take_of_length_le (by simp; omega)]
   rw [e1]
   refine sdigits _ ?_
   rw [dl_cons,dl_cons]
   by_cases ha:isDig a=true
   ·by_cases hb:isDig b=true
    ·rw [if_pos ha,if_pos hb]
     refine ifF (by omega) (ifT (by omega) ?_)
     by_cases h5:a.toNat≤53
     ·rw [if_pos ⟨rfl,ha,hb,h5⟩] at h
      refine ifF (by omega) (ifT (by omega) ?_)
      have e2:((58 :: a :: b :: r).drop 1).take (3 - 1)=[a,b]:=rfl
      rw [e2]
      refine satoi [a,b] (by simp) (by simp [ha,hb]) (by simp) (ifT (by omega) (ifT (by omega) ?_))
      have e3:((58 :: a :: b :: r).drop 3).take (Int.toNat ((r.length+3:Nat):Int) - 3)=r:=by
       rw [show (58 :: a :: b :: r).drop 3=r from rfl,List.take_of_length_le (by omega)]
      rw [e3]
      unfold isDig at ha hb
      simp at ha hb
      have e4:(valL [a,b]:Int)=10 * (a.toNat - 48)+(b.toNat - 48):=by simp [valL]; omega
      rw [e4]; exact h
     ·rw [if_neg (by rintro ⟨_,_,_,h⟩; exact h5 h)] at h
      exact ifT (by omega) h
    ·rw [if_neg (by rintro ⟨_,_,h,_⟩; exact hb h)] at h
     rw [if_pos ha,if_neg hb]
     exact ifT (by omega) h
   ·rw [if_neg (by rintro ⟨_,h,_⟩; exact ha h)] at h
    rw [if_neg ha]
    exact ifT (by omega) h
  ·rw [if_neg (by rintro ⟨h,_⟩; exact hc h)] at h
   refine ifT (fun h=>hc (u8_eq ?_)) h
   have:c.toNat=58:=by omega
   exact this
theorem smore (p:Int×List UInt8×Bool) {K} (h:K (moreL p).1 (S (moreL p).2.1) (moreL p).2.2):Xq3h (S p.2.1) p.2.2 K:=by
 unfold Xq3h Yq3h
 unfold moreL at h
 by_cases e:p.2.2=true
 ·rw [if_pos e] at h
  exact ifF (by simp [e]) (ssixty _ h)
 ·rw [if_neg e] at h
  exact ifT (by simpa using e) h
theorem more_bd (t:List UInt8):0≤(moreL (sixtyL t)).1∧(moreL (sixtyL t)).1≤59:=by
 unfold moreL; split
 ·exact sixty_bd _
 ·simp
theorem stime (l:List UInt8) (hl:l.length≤140737488351232) {K} (h:K (timeL l).1 (S (timeL l).2.1) (timeL l).2.2):Xq3t (S l) K:=by
 unfold Xq3t Yq3t
 have key:∀ (t:List UInt8) (sg:Int),(sg=1∨sg=-1)→t.length≤l.length→signL l=(sg,t) →
   (dl t=0→K 0 (S l) false)∧(dl t≠0→∃ v k:Nat,hourL t=(v,k)∧v≤167∧1≤k∧k≤dl t∧k≤3 ∧
    K (sg * ((v:Int) * 3600+(sixtyL (t.drop k)).1 * 60+(moreL (sixtyL (t.drop k))).1)) (S (moreL (sixtyL (t.drop k))).2.1) true):=by
  intro t sg hsg ht he
  unfold timeL at h
  rw [he] at h
  refine ⟨fun h0=>by rw [if_pos h0] at h; exact h,fun h0=>?_⟩
  rw [if_neg h0] at h
  obtain ⟨b1,b2,b3,b4⟩:=hour_bd t
  exact ⟨_,_,rfl,b1,b4 h0,b2,b3,h⟩
 have mn:∀ t:List UInt8,(if (3:Int) < (dl t:Int) then (3:Int) else (dl t:Int))=((min (dl t) 3:Nat):Int):=fun t=>by split <;> omega
 have hval:∀ t:List UInt8,dl t≠0→∀ {K:Int→Value→Prop},K (valL (t.take (min (dl t) 3)):Int) .nilIface→Xatoi (S ((t.drop 0).take (Int.toNat ((min (dl t) 3:Nat):Int) - 0))) K:=fun t h0 K hK=>by
  rw [List.drop_zero,Nat.sub_zero,Int.toNat_natCast]
  have hlen:(t.take (min (dl t) 3)).length=min (dl t) 3:=by rw [List.length_take]; have:=dl_le t; omega
  exact satoi _ (fun e=>by rw [e] at hlen; simp at hlen; omega) (take_dl_dig t _ (Nat.min_le_left _ _)) (by omega) hK
 have tdiv:∀ v:Nat,Int.tdiv (v:Int) 10=((v / 10:Nat):Int):=fun v=>by rw [Int.tdiv_eq_ediv_of_nonneg (by omega)]; rfl
 have fin:∀ (t:List UInt8) (k:Nat),(t.drop k).take (t.length - k)=t.drop k:=fun t k=>List.take_of_length_le (by simp)
 refine sTrimPrefix l 45 ?_
 by_cases h45:l.head? = some 45
 ·obtain ⟨t,rfl⟩:∃ t,l=45 :: t:=by cases l with
   | nil=>simp at h45
   | cons a t=>simp at h45; subst h45; exact ⟨t,rfl⟩
  have e:(cutP 45 (45 :: t)).1=t:=rfl
  rw [e]
  obtain ⟨k1,k2⟩:=key t (-1) (.inr rfl) (by simp) rfl
  have hdl:=dl_le t
  simp only [S_size,S_extract,beq_iff_eq,decide_eq_true_eq,gt_iff_lt]
  simp only [List.length_cons] at hl ⊢
  refine ifF (by omega) (sdigits _ ?_)
  rw [mn]
  refine ifC (fun h0=>k1 (by omega)) fun h0=>?_
  have h0':dl t≠0:=by omega
  obtain ⟨v,kk,hh,b1,b2,b3,b4,hK⟩:=k2 h0'
  refine ifT (by omega) (ifT (by omega) (hval t h0' ?_))
  unfold hourL at hh
  by_cases hg:valL (t.take (min (dl t) 3)) > 167
  ·rw [if_pos hg] at hh
   obtain ⟨rfl,rfl⟩:_=v∧_=kk:=by simpa using hh
   refine ifT (by omega) (ifT (by omega) ?_)
   rw [w64_in (n:=((min (dl t) 3:Nat):Int) - 1) (by omega) (by omega),show ((min (dl t) 3:Nat):Int) - 1=((min (dl t) 3 - 1:Nat):Int) by omega]
   refine ifT (by omega) ?_
   simp only [lt,Int.toNat_natCast,fin,tdiv]
   refine ssixty _ (smore _ ?_)
   have hs:=sixty_bd (t.drop (min (dl t) 3 - 1))
   have hm:=more_bd (t.drop (min (dl t) 3 - 1))
   generalize valL (t.take (min (dl t) 3)) / 10=v at *
   generalize (sixtyL (t.drop (min (dl t) 3 - 1))).1=a at *
   generalize (moreL (sixtyL (t.drop (min (dl t) 3 - 1)))).1=b at *
   rw [w64_in (n:=(v:Int)) (by omega) (by omega),w64_in (n:=(v:Int) * 3600) (by omega) (by omega),w64_in (n:=a * 60) (by omega) (by omega),w64_in (n:=(v:Int) * 3600+a * 60) (by omega) (by omega),w64_in (n:=(v:Int) * 3600+a * 60+b) (by omega) (by omega),w64_in (by omega) (by omega)]
   exact hK
  ·rw [if_neg hg] at hh
   obtain ⟨rfl,rfl⟩:_=v∧_=kk:=by simpa using hh
   refine ifF (by omega) (ifT (by omega) (ifT (by omega) ?_))
   simp only [lt,Int.toNat_natCast,fin]
   refine ssixty _ (smore _ ?_)
   have hs:=sixty_bd (t.drop (min (dl t) 3))
   have hm:=more_bd (t.drop (min (dl t) 3))
   generalize valL (t.take (min (dl t) 3))=v at *
   generalize (sixtyL (t.drop (min (dl t) 3))).1=a at *
   generalize (moreL (sixtyL (t.drop (min (dl t) 3)))).1=b at *
   rw [w64_in (n:=(v:Int) * 3600) (by omega) (by omega),w64_in (n:=a * 60) (by omega) (by omega),w64_in (n:=(v:Int) * 3600+a * 60) (by omega) (by omega),w64_in (n:=(v:Int) * 3600+a * 60+b) (by omega) (by omega),w64_in (by omega) (by omega)]
   exact hK
 ·have e:(cutP 45 l).1=l:=by unfold cutP; rw [if_neg h45]
  rw [e]
  refine ifT (by simp) (sTrimPrefix l 43 ?_)
  have hs:∃ t,signL l=(1,t)∧(cutP 43 l).1=t∧t.length≤l.length:=by
   unfold signL cutP
   cases l with
   | nil=>exact ⟨[],rfl,rfl,Nat.le_refl _⟩
   | cons a r =>
    have ha:a≠45:=by simpa using h45
    simp only [if_neg ha,List.head?_cons,Option.some.injEq,List.tail_cons]
    by_cases h43:a=43
    ·simp [h43]
    ·simp [h43]
  obtain ⟨t,h1,h2,h3⟩:=hs
  rw [h2]
  obtain ⟨k1,k2⟩:=key t 1 (.inl rfl) h3 h1
  have hdl:=dl_le t
  simp only [S_size,S_extract,beq_iff_eq,decide_eq_true_eq,gt_iff_lt]
  refine sdigits _ ?_
  rw [mn]
  refine ifC (fun h0=>k1 (by omega)) fun h0=>?_
  have h0':dl t≠0:=by omega
  obtain ⟨v,kk,hh,b1,b2,b3,b4,hK⟩:=k2 h0'
  refine ifT (by omega) (ifT (by omega) (hval t h0' ?_))
  unfold hourL at hh
  by_cases hg:valL (t.take (min (dl t) 3)) > 167
  ·rw [if_pos hg] at hh
   obtain ⟨rfl,rfl⟩:_=v∧_=kk:=by simpa using hh
   refine ifT (by omega) (ifT (by omega) ?_)
   rw [w64_in (n:=((min (dl t) 3:Nat):Int) - 1) (by omega) (by omega),show ((min (dl t) 3:Nat):Int) - 1=((min (dl t) 3 - 1:Nat):Int) by omega]
   refine ifT (by omega) ?_
   simp only [lt,Int.toNat_natCast,fin,tdiv]
   refine ssixty _ (smore _ ?_)
   have hs:=sixty_bd (t.drop (min (dl t) 3 - 1))
   have hm:=more_bd (t.drop (min (dl t) 3 - 1))
   generalize valL (t.take (min (dl t) 3)) / 10=v at *
   generalize (sixtyL (t.drop (min (dl t) 3 - 1))).1=a at *
   generalize (moreL (sixtyL (t.drop (min (dl t) 3 - 1)))).1=b at *
   rw [w64_in (n:=(v:Int)) (by omega) (by omega),w64_in (n:=(v:Int) * 3600) (by omega) (by omega),w64_in (n:=a * 60) (by omega) (by omega),w64_in (n:=(v:Int) * 3600+a * 60) (by omega) (by omega),w64_in (n:=(v:Int) * 3600+a * 60+b) (by omega) (by omega),w64_in (by omega) (by omega)]
   exact hK
  ·rw [if_neg hg] at hh
   obtain ⟨rfl,rfl⟩:_=v∧_=kk:=by simpa using hh
   refine ifF (by omega) (ifT (by omega) (ifT (by omega) ?_))
   simp only [lt,Int.toNat_natCast,fin]
   refine ssixty _ (smore _ ?_)
   have hs:=sixty_bd (t.drop (min (dl t) 3))
   have hm:=more_bd (t.drop (min (dl t) 3))
   generalize valL (t.take (min (dl t) 3))=v at *
   generalize (sixtyL (t.drop (min (dl t) 3))).1=a at *
   generalize (moreL (sixtyL (t.drop (min (dl t) 3)))).1=b at *
   rw [w64_in (n:=(v:Int) * 3600) (by omega) (by omega),w64_in (n:=a * 60) (by omega) (by omega),w64_in (n:=(v:Int) * 3600+a * 60) (by omega) (by omega),w64_in (n:=(v:Int) * 3600+a * 60+b) (by omega) (by omega),w64_in (by omega) (by omega)]
   exact hK
end Go.Proofs.YtbnpclndiichcaaGreatDoor
end
section
set_option linter.unusedVariables false
set_option linter.unusedSimpArgs false
namespace Go.Proofs.YtbnpclndiichcaaGreatDoor
open Go Go.Proofs.YtbnpclndiichcaaGreatDoor.Eng Go.Proofs.YtbnpclndiichcaaGreatDoor.Pl
theorem take_all (t:List UInt8) (k:Nat):(t.drop k).take (t.length - k)=t.drop k:=List.take_of_length_le (by simp)
theorem swithin (n a b:Int) {K} (h:K (decide (a≤n∧n≤b))):Xq2v n a b K:=by
 unfold Xq2v Yq2v
 simp only [decide_eq_true_eq,ge_iff_le]
 refine ifC (fun h1=>cast (congrArg K ?_) h) fun h1=>cast (congrArg K ?_) h
 ·simp [h1]
 ·simp [h1]
theorem sruleRight (k a b c x:Int) {K} (h:K (rightR k a b c x)):Xq3e (k,a,b,c,x,()) K:=by
 unfold Xq3e Yq3e
 simp only [beq_iff_eq,decide_eq_true_eq,gt_iff_lt]
 refine swithin _ _ _ ?_
 have fin:∀ z:Bool,(z=true↔((-604799≤x∧x≤604799)∧((k=0∧1≤a∧a≤12∧1≤b∧b≤5∧0≤c∧c≤6)∨(k=1∧1≤a∧a≤365∧b=0∧c=0)∨(k=2∧0≤a∧a≤365∧b=0∧c=0))))→K z:=fun z hz =>
  cast (congrArg K (Bool.eq_iff_iff.2 ((right_iff k a b c x).trans hz.symm))) h
 clear h
 refine ifC (fun k0=>?_) fun k0=>?_
 ·refine ifC (fun hx=>?_) fun hx=>fin _ ?_
  ·refine swithin _ _ _ (ifC (fun ha=>swithin _ _ _ (ifC (fun hb=>swithin _ _ _ (fin _ ?_)) fun hb=>fin _ ?_)) fun ha=>fin _ ?_)
   all_goals (simp only [decide_eq_true_eq,Bool.false_eq_true,false_iff] at *; omega)
  ·simp only [decide_eq_true_eq,Bool.false_eq_true,false_iff] at *; omega
 ·refine ifC (fun k1=>?_) fun k1=>ifC (fun k2=>?_) fun k2=>fin _ (by simp only [Bool.false_eq_true,false_iff]; omega)
  ·refine ifC (fun hx=>ifC (fun ha=>swithin _ _ _ (ifC (fun hb=>ifC (fun hc=>fin _ ?_) fun hc=>fin _ ?_) fun hb=>fin _ ?_)) fun ha=>fin _ ?_) fun hx=>fin _ ?_
   all_goals (simp only [decide_eq_true_eq,Bool.false_eq_true,false_iff,beq_iff_eq] at *; omega)
  ·refine ifC (fun hx=>swithin _ _ _ (ifC (fun hb=>ifC (fun hc=>fin _ ?_) fun hc=>fin _ ?_) fun hb=>fin _ ?_)) fun hx=>fin _ ?_
   all_goals (simp only [decide_eq_true_eq,Bool.false_eq_true,false_iff,beq_iff_eq] at *; omega)
theorem snumber (l:List UInt8) (m:Nat) (hm:m≤18) {K} (h:K (numberL l m).1 (S (numberL l m).2.1) (numberL l m).2.2):Xq30 (S l) (m:Int) K:=by
 unfold Xq30 Yq30
 refine sdigits _ ?_
 have hd:=dl_le l
 unfold numberL at h
 simp only [beq_iff_eq,decide_eq_true_eq,gt_iff_lt,S_size,S_extract,Int.toNat_natCast,take_all,List.drop_zero,Nat.sub_zero]
 by_cases e:dl l=0∨m < dl l
 ·rw [if_pos e] at h
  exact ifC (fun _=>h) fun _=>ifT (by omega) h
 ·rw [if_neg e] at h
  refine ifF (by omega) (ifF (by omega) (ifT (by omega) (ifT (by omega) ?_)))
  have hlen:(l.take (dl l)).length=dl l:=by rw [List.length_take]; omega
  exact satoi _ (fun e=>by rw [e] at hlen; simp at hlen; omega) (take_dl_dig l _ (Nat.le_refl _)) (by omega) (ifT (by omega) (ifT (by omega) h))
theorem sweek (l:List UInt8) {K} (h:K (0,(weekL l).1,(weekL l).2.1,(weekL l).2.2.1,0,()) (S (weekL l).2.2.2.1) (weekL l).2.2.2.2):Xq3q (S l) K:=by
 unfold Xq3q Yq3q
 refine snumber l 2 (by omega) (sCutPrefix _ _ (snumber _ 1 (by omega) (sCutPrefix _ _ (snumber _ 1 (by omega) ?_))))
 unfold weekL at h
 generalize numberL l 2=p at *
 generalize cutP 46 p.2.1=q at *
 generalize numberL q.1 1=r at *
 generalize cutP 46 r.2.1=t at *
 generalize numberL t.1 1=u at *
 obtain ⟨p1,p2,p3⟩:=p
 obtain ⟨q1,q2⟩:=q
 obtain ⟨r1,r2,r3⟩:=r
 obtain ⟨t1,t2⟩:=t
 obtain ⟨u1,u2,u3⟩:=u
 simp only at h ⊢
 cases p3 <;> cases r3 <;> cases u3 <;> cases q2 <;> simpa using h
theorem sdate (l:List UInt8) {K} (h:K ((dateL l).1,(dateL l).2.1,(dateL l).2.2.1,(dateL l).2.2.2.1,0,()) (S (dateL l).2.2.2.2.1) (dateL l).2.2.2.2.2):Xq3u (S l) K:=by
 unfold Xq3u Yq3u
 refine sCutPrefix _ _ ?_
 unfold dateL at h
 unfold cutP
 by_cases e:l.head? = some 77
 ·rw [if_pos e] at h ⊢
  exact ifT rfl (sweek _ h)
 ·rw [if_neg e] at h ⊢
  refine ifF (by simp) (sCutPrefix _ _ ?_)
  unfold cutP
  by_cases e2:l.head? = some 74
  ·rw [if_pos e2] at h ⊢
   exact ifT rfl (snumber _ 3 (by omega) h)
  ·rw [if_neg e2] at h ⊢
   exact ifF (by simp) (snumber _ 3 (by omega) h)
theorem date_len (l:List UInt8):(dateL l).2.2.2.2.1.length≤l.length:=by
 obtain ⟨j,_,e,_⟩:=dateL_drop l
 rw [e,List.length_drop]; omega
theorem sruleParse (l:List UInt8) (hl:l.length≤140737488351232) {K} (h:K ((parseL l).1,(parseL l).2.1,(parseL l).2.2.1,(parseL l).2.2.2.1,(parseL l).2.2.2.2.1,()) (S (parseL l).2.2.2.2.2.1) (parseL l).2.2.2.2.2.2):Xq3g (S l) K:=by
 unfold Xq3g Yq3g
 refine sdate _ (sCutPrefix _ _ ?_)
 have hlen:=date_len l
 unfold parseL at h
 generalize dateL l=d at *
 obtain ⟨dk,da,db,dc,dt,ok⟩:=d
 simp only at h hlen ⊢
 unfold cutP
 by_cases e:dt.head? = some 47
 ·rw [if_pos e] at h ⊢
  cases ok
  ·simp only [Bool.false_eq_true,if_false] at h
   exact ifF (by simp) (ifT rfl h)
  ·simp only [if_true] at h
   refine ifT rfl (ifT rfl (stime _ (by rw [List.length_tail]; omega) ?_))
   by_cases e2:(timeL dt.tail).2.2=true
   ·refine ifF (by simp [e2]) (sruleRight _ _ _ _ _ ?_)
    by_cases e3:rightR dk da db dc (timeL dt.tail).1=true
    ·rw [if_pos ⟨e2,e3⟩] at h
     exact ifF (by simp [e3]) h
    ·rw [if_neg (fun h=>e3 h.2)] at h
     exact ifT (by simpa using e3) h
   ·rw [if_neg (fun h=>e2 h.1)] at h
    exact ifT (by simpa using e2) h
 ·rw [if_neg e] at h ⊢
  cases ok
  ·simp only [Bool.false_eq_true,if_false] at h
   exact ifF (by simp) (ifT rfl h)
  ·simp only [if_true] at h
   refine ifT rfl (ifF (by simp) (ifF (by simp) (sruleRight _ _ _ _ _ ?_)))
   by_cases e3:rightR dk da db dc 7200=true
   ·rw [if_pos e3] at h
    exact ifF (by simp [e3]) h
   ·rw [if_neg e3] at h
    exact ifT (by simpa using e3) h
end Go.Proofs.YtbnpclndiichcaaGreatDoor
end
section
set_option linter.unusedVariables false
set_option linter.unusedSimpArgs false
namespace Go.Proofs.YtbnpclndiichcaaGreatDoor
open Go Go.Proofs.YtbnpclndiichcaaGreatDoor.Eng Go.Proofs.YtbnpclndiichcaaGreatDoor.Pl
def okD (y m d:Int):Prop:=1≤y∧y≤9999∧1≤m∧m≤12∧1≤d∧d≤dim y m
instance (y m d:Int):Decidable (okD y m d):=by unfold okD; infer_instance
end Go.Proofs.YtbnpclndiichcaaGreatDoor
end
section
set_option linter.unusedVariables false
set_option linter.unusedSimpArgs false
namespace Go.Proofs.YtbnpclndiichcaaGreatDoor
open Go Go.Proofs.YtbnpclndiichcaaGreatDoor.Eng Go.Proofs.YtbnpclndiichcaaGreatDoor.Pl
abbrev tupFt (f:Ft):Int×Bool×ByteArray×Int×Bool×ByteArray×Bool×Int×Int×Int×Int×Int×Int×Int×Int×Int×Int×Unit :=
 (f.so,f.sd,S f.sa,f.wo,f.wd,S f.wa,f.has,f.fr.k,f.fr.a,f.fr.b,f.fr.c,f.fr.x,f.to.k,f.to.a,f.to.b,f.to.c,f.to.x,())
theorem skind (o:Int) (d:Bool) (l:List UInt8) (w:Bool) {K} (h:K (kindR o d l w)):Xq3k (o,d,S l,()) w K:=by
 unfold Xq3k Yq3k
 refine sabbr l ?_
 unfold kindR at h
 simp only [ge_iff_le,decide_eq_true_eq,beq_iff_eq]
 by_cases e1:abbrL l=true
 ·refine ifT e1 ?_
  by_cases e2:d=w
  ·refine ifT e2 ?_
   simp only [e1,e2,beq_self_eq_true,Bool.true_and] at h
   refine ifC (fun e3=>cast (congrArg K ?_) h) fun e3=>cast (congrArg K ?_) h
   ·simp [e3]
   ·simp [e3]
  ·exact ifF e2 (cast (congrArg K (by simp [e2])) h)
 ·exact ifF e1 (cast (congrArg K (by simp [e1])) h)
theorem sfootRight (f:Ft) {K} (h:K f.ok):Xq3b (tupFt f) K:=by
 unfold Xq3b Yq3b
 refine skind _ _ _ _ ?_
 unfold Ft.ok at h
 by_cases e1:kindR f.so f.sd f.sa false=true
 ·refine ifF (by simp [e1]) ?_
  rw [e1,Bool.true_and] at h
  refine ifC (fun e2=>?_) fun e2=>?_
  ·rw [if_pos e2] at h
   refine skind _ _ _ _ ?_
   by_cases e3:kindR f.wo f.wd f.wa true=true
   ·refine ifT e3 (sruleRight _ _ _ _ _ ?_)
    rw [e3,Bool.true_and] at h
    by_cases e4:f.fr.ok=true
    ·refine ifT e4 (sruleRight _ _ _ _ _ ?_)
     rw [e4,Bool.true_and] at h
     exact h
    ·exact ifF e4 (cast (congrArg K (by simp [e4])) h)
   ·exact ifF e3 (cast (congrArg K (by simp [e3])) h)
  ·rw [if_neg e2] at h
   have key:∀ z:Bool,(z=true↔f.bare)→K z:=fun z hz=>cast (congrArg K (Bool.eq_iff_iff.2 (decide_eq_true_iff.trans hz.symm))) h
   have e2':f.has=false:=by simpa using e2
   simp only [lt]
   refine key _ ?_
   unfold Ft.bare
   simp [e2',S_toList]
   constructor <;> intro hh <;> simp [hh]
 ·exact ifT (by simpa using e1) (cast (congrArg K (by simp [e1])) h)
theorem splain (n:Int) {K} (h:K (decide ((97≤n∧n≤122)∨(65≤n∧n≤90)))):Xq3d n K:=by
 unfold Xq3d Yq3d
 simp only [decide_eq_true_eq,ge_iff_le]
 repeat' (first | refine ifT (by omega) ?_ | refine ifF (by omega) ?_ | refine ifC (fun _=>?_) (fun _=>?_))
 all_goals (refine cast (congrArg K ?_) h; apply Bool.eq_iff_iff.2; simp only [decide_eq_true_eq,Bool.false_eq_true,true_iff,iff_true,iff_false]; omega)
theorem letQ (c:UInt8):(!decide ((97≤(c.toNat:Int)∧(c.toNat:Int)≤122)∨(65≤(c.toNat:Int)∧(c.toNat:Int)≤90))) = !letC c:=by
 unfold letC; congr 1; apply Bool.eq_iff_iff.2; simp; omega
theorem letH (c:UInt8) (hc:128≤c.toNat):(!letC c)=true:=by
 unfold letC; simp; omega
theorem sname (l:List UInt8) (hl:l.length≤140737488351232) {a1 a2 a3 a4 a5 a6 a7 a8 a9 a10 a11 a12 a13 a14 a15 a16 a17} {K} (h:K (S (nameP l).1) (nameP l).2.1 (S (nameP l).2.2) a1 a2 a3 a4 a5 a6 a7 a8 a9 a10 a11 a12 a13 a14 a15 a16 a17):Xq1d (S l) a1 a2 a3 a4 a5 a6 a7 a8 a9 a10 a11 a12 a13 a14 a15 a16 a17 K:=by
 unfold Xq1d Yq1d
 refine sCutPrefix _ _ ?_
 unfold nameP at h
 unfold cutP
 by_cases e:l.head? = some 60
 ·rw [if_pos e] at h ⊢
  refine ifT rfl (sCut _ _ (by rw [List.length_tail]; omega) ?_)
  generalize splitL 62 l.tail=p at *
  obtain ⟨p1,p2,p3⟩:=p
  simp only at h ⊢
  cases p3
  ·simp only [Bool.false_and] at h
   exact ifF (by simp) h
  ·simp only [Bool.true_and] at h
   exact ifT rfl (sabbr _ h)
 ·rw [if_neg e] at h ⊢
  refine ifF (by simp) ?_
  unfold Xq0k Yq0k Xq0l
  have sn:∀ (n:Int) {K:Bool→Prop},K (!decide ((97≤n∧n≤122)∨(65≤n∧n≤90)))→Xq0r n K:=fun n K h=>by
   unfold Xq0r Yq0r; exact splain n h
  refine sIndexFunc (fun c=>!letC c) (fun c K hc h=>sn _ (cast (congrArg K (letQ c).symm) h)) (fun n K hn h=>sn _ (cast (congrArg K ?_) h)) letH l ?_
  ·symm; simp; omega
  ·have hn:=nl_le (fun c=>!letC c) l
   generalize nl (fun c=>!letC c) l=k at *
   simp only [S_size,S_extract,decide_eq_true_eq,List.drop_zero,Nat.sub_zero,take_all,Int.toNat_natCast]
   by_cases e2:k < l.length
   ·rw [if_pos e2]
    simp only [Int.toNat_natCast,take_all,List.drop_zero,Nat.sub_zero]
    exact ifF (by omega) (ifT (by omega) (ifT (by omega) (ifT (by omega) (ifT (by omega) (sabbr _ h)))))
   ·rw [if_neg e2]
    have:k=l.length:=by omega
    subst this
    refine ifT (by omega) (ifT (by omega) (ifT (by omega) (ifT (by omega) (sabbr _ ?_))))
    exact h
theorem name_len (l:List UInt8):(nameP l).2.2.length≤l.length∧(nameP l).1.length≤l.length:=by
 unfold nameP splitL
 repeat' split
 all_goals simp
 all_goals omega
theorem time_bd (l:List UInt8):-604799≤(timeL l).1∧(timeL l).1≤604799∧(timeL l).2.1.length≤l.length:=by
 obtain ⟨j,_,e,_,h1,h2,_⟩:=time_drop l
 rw [e,List.length_drop]; exact ⟨h1,h2,by omega⟩
theorem susual (l:List UInt8) (hl:l.length≤140737488351232) {a1 a2 a3 a4 a5 a6 a7 a8 a9 a10 a11 a12 a13 a14 a15 a16 a17} {K} (h:K (usualP l).ok (S (usualP l).rest) (usualP l).o false (S (usualP l).a) a4 a5 a6 a7 a8 a9 a10 a11 a12 a13 a14 a15 a16 a17):Xq17 (S l) a1 a2 a3 a4 a5 a6 a7 a8 a9 a10 a11 a12 a13 a14 a15 a16 a17 K:=by
 unfold Xq17 Yq17
 have hn:=name_len l
 refine sname l hl (stime _ (by omega) ?_)
 have ht:=time_bd (nameP l).2.2
 rw [w64_in (by omega) (by omega),Int.zero_sub]
 unfold usualP at h
 simp only at h
 by_cases e:(nameP l).2.1=true
 ·rw [e,Bool.true_and] at h
  exact ifT e h
 ·rw [Bool.eq_false_iff.2 e,Bool.false_and] at h
  exact ifF e h
theorem ssummer (l:List UInt8) (hl:l.length≤140737488351232) {a1 a2 a3 a4 a5 a6 a7 a8 a9 a10 a11 a12 a13 a14 a15 a16 a17} (ha:-604799≤a1∧a1≤604799) {K} (h:K (summerP a1 l).ok (S (summerP a1 l).rest) a1 a2 a3 (summerP a1 l).o true (S (summerP a1 l).a) true a8 a9 a10 a11 a12 a13 a14 a15 a16 a17):Xq0p (S l) a1 a2 a3 a4 a5 a6 a7 a8 a9 a10 a11 a12 a13 a14 a15 a16 a17 K:=by
 unfold Xq0p Yq0p
 have hn:=name_len l
 refine sname l hl (stime _ (by omega) ?_)
 have ht:=time_bd (nameP l).2.2
 rw [w64_in (n:=0 - _) (by omega) (by omega),Int.zero_sub,w64_in (by omega) (by omega)]
 unfold summerP at h
 by_cases e:(timeL (nameP l).2.2).2.2=true
 ·rw [if_pos e] at h
  exact ifT e h
 ·rw [if_neg e] at h
  exact ifF e h
theorem cut_len (c:UInt8) (l:List UInt8):(cutP c l).1.length≤l.length:=by
 unfold cutP; split
 ·rw [List.length_tail]; omega
 ·exact Nat.le_refl _
theorem srule (l:List UInt8) (hl:l.length≤140737488351232) {a1 a2 a3 a4 a5 a6 a7 a8 a9 a10 a11 a12 a13 a14 a15 a16 a17} {K} (h:K (ruleP l).ok (S (ruleP l).rest) a1 a2 a3 a4 a5 a6 a7 (ruleP l).r.k (ruleP l).r.a (ruleP l).r.b (ruleP l).r.c (ruleP l).r.x a13 a14 a15 a16 a17):Xq1i (S l) a1 a2 a3 a4 a5 a6 a7 a8 a9 a10 a11 a12 a13 a14 a15 a16 a17 K:=by
 unfold Xq1i Yq1i
 have hc:=cut_len 44 l
 refine sCutPrefix _ _ (sruleParse _ (by omega) ?_)
 unfold ruleP at h
 simp only at h
 by_cases e:(parseL (cutP 44 l).1).2.2.2.2.2.2=true
 ·rw [e,Bool.true_and] at h
  exact ifT e h
 ·rw [Bool.eq_false_iff.2 e,Bool.false_and] at h
  exact ifF e h
theorem srule1 (l:List UInt8) (hl:l.length≤140737488351232) {a1 a2 a3 a4 a5 a6 a7 a8 a9 a10 a11 a12 a13 a14 a15 a16 a17} {K} (h:K (ruleP l).ok (S (ruleP l).rest) a1 a2 a3 a4 a5 a6 a7 a8 a9 a10 a11 a12 (ruleP l).r.k (ruleP l).r.a (ruleP l).r.b (ruleP l).r.c (ruleP l).r.x):Xq0m (S l) a1 a2 a3 a4 a5 a6 a7 a8 a9 a10 a11 a12 a13 a14 a15 a16 a17 K:=by
 unfold Xq0m Yq0m
 have hc:=cut_len 44 l
 refine sCutPrefix _ _ (sruleParse _ (by omega) ?_)
 unfold ruleP at h
 simp only at h
 by_cases e:(parseL (cutP 44 l).1).2.2.2.2.2.2=true
 ·rw [e,Bool.true_and] at h
  exact ifT e h
 ·rw [Bool.eq_false_iff.2 e,Bool.false_and] at h
  exact ifF e h
theorem rule_len (l:List UInt8):(ruleP l).rest.length≤l.length:=by
 have hc:=cut_len 44 l
 unfold ruleP
 simp only
 cases e:(parseL (cutP 44 l).1).2.2.2.2.2.2
 ·rw [parse_bad _ e]; exact hc
 ·obtain ⟨_,j,_,h1,h2⟩:=parse_good _ e
  rw [h2,List.length_drop]; omega
theorem usual_len (l:List UInt8):(usualP l).rest.length≤l.length∧-604799≤(usualP l).o∧(usualP l).o≤604799:=by
 have hn:=name_len l
 have ht:=time_bd (nameP l).2.2
 unfold usualP
 simp only
 omega
theorem summer_len (so:Int) (l:List UInt8):(summerP so l).rest.length≤l.length:=by
 have hn:=name_len l
 have ht:=time_bd (nameP l).2.2
 unfold summerP
 split <;> simp only <;> omega
theorem sfootParse (l:List UInt8) (hl:l.length≤140737488351232) {K} (h:K (tupFt (Ft.parse l).1) (Ft.parse l).2):Xq3c (S l) K:=by
 unfold Xq3c Yq3c
 have hu:=usual_len l
 have hs:=summer_len (usualP l).o (usualP l).rest
 have hr:=rule_len (summerP (usualP l).o (usualP l).rest).rest
 refine susual l hl ?_
 unfold Ft.parse at h
 by_cases e1:(usualP l).ok=true
 ·rw [if_pos e1] at h
  refine ifF (by simp [e1]) ?_
  simp only [S_toList]
  by_cases e2:(usualP l).rest=[]
  ·rw [if_pos e2] at h
   refine ifT (by simp [e2]) (ifF (by simp [e2]) (sfootRight ⟨(usualP l).o,false,(usualP l).a,0,false,[],false,.z,.z⟩ ?_))
   unfold Ft.chk at h
   refine ifC (fun e3=>?_) fun e3=>?_
   ·rw [if_neg (by simpa using e3)] at h; exact h
   ·rw [if_pos (by simpa using e3)] at h; exact h
  ·rw [if_neg e2] at h
   refine ifF (by simp [e2]) (ssummer _ (by omega) (by omega) ?_)
   by_cases e3:(summerP (usualP l).o (usualP l).rest).ok=true
   ·rw [if_pos e3] at h
    refine ifF (by simp [e3]) ?_
    unfold Xq1b Yq1b
    refine srule _ (by omega) ?_
    by_cases e4:(ruleP (summerP (usualP l).o (usualP l).rest).rest).ok=true
    ·rw [if_pos e4] at h
     refine ifF (by simp [e4]) ?_
     unfold Xq28 Yq28
     refine srule1 _ (by omega) ?_
     by_cases e5:(ruleP (ruleP (summerP (usualP l).o (usualP l).rest).rest).rest).ok=true
     ·rw [if_pos e5] at h
      refine ifF (by simp [e5]) ?_
      simp only [S_toList]
      by_cases e6:(ruleP (ruleP (summerP (usualP l).o (usualP l).rest).rest).rest).rest=[]
      ·rw [if_pos e6] at h
       refine ifF (by simp [e6]) (sfootRight ⟨(usualP l).o,false,(usualP l).a,(summerP (usualP l).o (usualP l).rest).o,true,(summerP (usualP l).o (usualP l).rest).a,true,(ruleP (summerP (usualP l).o (usualP l).rest).rest).r,(ruleP (ruleP (summerP (usualP l).o (usualP l).rest).rest).rest).r⟩ ?_)
       unfold Ft.chk at h
       refine ifC (fun e3=>?_) fun e3=>?_
       ·rw [if_neg (by simpa using e3)] at h; exact h
       ·rw [if_pos (by simpa using e3)] at h; exact h
      ·rw [if_neg e6] at h
       exact ifT (by simp [e6]) h
     ·rw [if_neg e5] at h
      exact ifT (by simpa using e5) h
    ·rw [if_neg e4] at h
     exact ifT (by simpa using e4) h
   ·rw [if_neg e3] at h
    exact ifT (by simpa using e3) h
 ·rw [if_neg e1] at h
  exact ifT (by simpa using e1) h
end Go.Proofs.YtbnpclndiichcaaGreatDoor
end
section
set_option linter.unusedVariables false
set_option linter.unusedSimpArgs false
namespace Go.Proofs.YtbnpclndiichcaaGreatDoor
open Go Go.Proofs.YtbnpclndiichcaaGreatDoor.Eng Go.Proofs.YtbnpclndiichcaaGreatDoor.Pl
set_option maxRecDepth 100000
set_option maxHeartbeats 2000000
theorem RV_cut (l:List Rec) (a n:Nat):cutL (RV l) a n=RV ((l.drop a).take n):=by simp [cutL,RV]
theorem getD_at {α:Type} (l:List α) (i:Nat) (d:α) (h:i < l.length):l.getD i d=l[i]:=by
 rw [List.getD_eq_getElem?_getD,List.getElem?_eq_getElem h]; rfl
theorem sLeaps (l:List Rec) (hl:l.length≤100000) {K} (h:K (RV (leapsR l)) false true):Xq2r (RV l) K:=by
 unfold Xq2r Yq2r
 simp only [RV_len,beq_iff_eq,decide_eq_true_eq]
 have e1:w64 ((l.length:Int) - 1)=(l.length:Int) - 1:=w64_in (by omega) (by omega)
 have e2:w64 ((l.length:Int) - 1 - 1)=(l.length:Int) - 1 - 1:=w64_in (by omega) (by omega)
 rw [e1,e2]
 simp only [lt]
 have cut:∀ n:Nat,n=l.length - 1→cutL (RV l) 0 (Int.toNat ((l.length:Int) - 1) - 0)=RV (l.take n):=fun n hn=>by
  rw [RV_cut,List.drop_zero]; congr 2; omega
 unfold leapsR at h
 by_cases h1:l.length=1
 ·have g:=getD_at l 0 (0,0) (by omega)
  have le:lastExp l=((l[0]'(by omega)).2 == 0):=by
   unfold lastExp
   rw [g]; simp [h1]
  rw [if_pos (by omega),if_pos (by omega)]
  refine asR2 (by omega) ?_
  by_cases h2:(l[0]'(by omega)).2=0
  ·rw [if_pos h2,if_pos h2,if_pos (by omega),if_pos (by omega),cut _ rfl]
   rw [le,h2,if_pos (beq_self_eq_true _)] at h
   exact h
  ·rw [if_neg h2,if_neg (by omega)]
   rw [le,if_neg (by simpa using h2)] at h
   exact h
 ·rw [if_neg (by omega)]
  by_cases h2:1 < l.length
  ·have g1:=getD_at l (l.length - 1) (0,0) (by omega)
   have g2:=getD_at l (l.length - 2) (0,0) (by omega)
   have le:lastExp l=((l[l.length - 1]'(by omega)).2 == (l[l.length - 2]'(by omega)).2):=by
    unfold lastExp
    rw [g1,g2]; simp [h1,h2]
   rw [if_pos (by omega),if_pos (by omega)]
   have t1:Int.toNat ((l.length:Int) - 1)=l.length - 1:=by omega
   have t2:Int.toNat ((l.length:Int) - 1 - 1)=l.length - 2:=by omega
   rw [t1,t2] at *
   refine asR2 (by omega) ?_
   rw [if_pos (by omega)]
   refine asR2 (by omega) ?_
   by_cases h3:(l[l.length - 1]'(by omega)).2=(l[l.length - 2]'(by omega)).2
   ·have cut2:cutL (RV l) 0 (l.length - 1 - 0)=RV (l.take (l.length - 1)):=by rw [RV_cut]; simp
    rw [if_pos h3,if_pos (by omega),if_pos (by omega),cut2]
    rw [le,h3,if_pos (beq_self_eq_true _)] at h
    exact h
   ·rw [if_neg h3]
    rw [le,if_neg (by simpa using h3)] at h
    exact h
  ·have le:lastExp l=false:=by
    unfold lastExp
    simp [h1,h2]
   rw [if_neg (by omega)]
   rw [le,if_neg (by simp)] at h
   exact h
theorem lastExp_pos {l:List Rec} (h:lastExp l=true):1≤l.length:=by
 unfold lastExp at h
 simp only [Bool.or_eq_true,Bool.and_eq_true,decide_eq_true_eq] at h
 omega
theorem leapsR_len (l:List Rec):(leapsR l).length=if lastExp l=true then l.length - 1 else l.length:=by
 unfold leapsR
 split
 ·rw [List.length_take]; omega
 ·rfl
theorem sExpiry (l:List Rec) (hl:l.length≤100000) {K:Int→Bool→Prop} (h:∀ n,K n (lastExp l)):Xq2f (RV l) K:=by
 unfold Xq2f Yq2f
 refine sLeaps l hl ?_
 simp only [RV_len,decide_eq_true_eq,leapsR_len]
 cases e:lastExp l
 ·rw [if_neg (by simp)]
  have:=h 0
  rw [e] at this; exact this
 ·have:=lastExp_pos e
  rw [if_pos (by simp; omega),if_pos (by simp; omega)]
  simp only [if_true,Int.toNat_natCast]
  refine asR1 (by omega) ?_
  have:=h (l[l.length - 1]'(by omega)).1
  rw [e] at this; exact this
def hadM (hs:List (List UInt8×Int)):List (Value×V):=hs.map fun x=>(.string (S x.1),.c (.int .i64 x.2))
theorem bs_beq (a b:List UInt8):(S a == S b)=(a == b):=by
 rw [Bool.eq_iff_iff,MapKept.bytes_beq,beq_iff_eq]
 constructor
 ·intro h
  rw [← S_toList a,← S_toList b,h]
 ·intro h; rw [h]
theorem get_had (s:List UInt8):∀ hs:List (List UInt8×Int),mpGet (S s) (hadM hs)=some ((hs.find? fun x=>x.1 == s).map fun x=>V.c (.int .i64 x.2))
 | []=>rfl
 | x :: hs=>by
  show (bif S s == S x.1 then _ else _)=_
  rw [bs_beq,List.find?_cons]
  by_cases e:s=x.1
  ·rw [e]; simp
  ·have e1:(s == x.1)=false:=by simpa using e
   have e2:(x.1 == s)=false:=by simpa using Ne.symm e
   rw [e1,e2]
   exact get_had s hs
theorem put_had (s:List UInt8) (p:Int):∀ hs:List (List UInt8×Int),hs.find? (fun x=>x.1 == s)=none→mpPut (S s) (.c (.int .i64 p)) (hadM hs)=hadM (hs++[(s,p)])
 | [],_=>rfl
 | x :: hs,h=>by
  rw [List.find?_cons] at h
  cases e:(x.1 == s)
  ·rw [e] at h
   have e1:(s == x.1)=false:=by
    rw [beq_eq_false_iff_ne] at e ⊢; exact Ne.symm e
   show (bif S s == S x.1 then _ else _)=_
   rw [bs_beq,e1]
   show _ :: mpPut (S s) _ (hadM hs)=_
   rw [put_had s p hs h]; rfl
  ·rw [e] at h; cases h
theorem poolN_congr:∀ (l a b:List (List UInt8)),(∀ s,a.contains s=b.contains s)→poolN a l=poolN b l
 | [],a,b,h=>rfl
 | s :: r,a,b,h=>by
  rw [poolN,poolN,h s]
  split
  ·exact poolN_congr r a b h
  ·rw [poolN_congr r (s :: a) (s :: b) fun t=>by simp only [List.contains_cons,h t]]
theorem poolN_le:∀ (l a:List (List UInt8)),(∀ s∈l,s.length≤10000)→poolN a l≤10001 * l.length
 | [],a,h=>by simp [poolN]
 | s :: r,a,h=>by
  rw [poolN,List.length_cons]
  have h1:=h s (.head _)
  split
  ·have:=poolN_le r a fun t ht=>h t (.tail _ ht); omega
  ·have:=poolN_le r (s :: a) fun t ht=>h t (.tail _ ht); omega
def NV (l:List (List UInt8)):List V:=l.map fun s=>.c (.string (S s))
theorem NV_len (l:List (List UInt8)):(NV l).length=l.length:=by simp [NV]
theorem asN {l:List (List UInt8)} {i:Nat} (h:i < l.length) {F:Prop} {K:ByteArray→Prop} (hk:K (S l[i])):Eng.asStr (getC (NV l) i 0) F K:=by
 have:getC (NV l) i 0=some (.c (.string (S l[i]))):=by simp [getC,NV,V.cells,h]
 rw [this]; simpa [Eng.asStr] using hk
theorem room8 (n:Nat) (h:n≤100000000):roomOk n 8=true:=by
 unfold roomOk; simp only [decide_eq_true_eq]; omega
theorem room16 (n:Nat) (h:n≤100000000):roomOk n 16=true:=by
 unfold roomOk; simp only [decide_eq_true_eq]; omega
theorem room32 (n:Nat) (h:n≤100000000):roomOk n 32=true:=by
 unfold roomOk; simp only [decide_eq_true_eq]; omega
theorem sPool (l:List (List UInt8)) (hl:l.length≤1000) (hs:∀ s∈l,s.length≤10000) {K:ByteArray→Bool→List V→Bool→Bool→Prop}
  (h:∀ p at' o z,p.size≤100000000→(l.all abbrL && decide (poolN [] l≤256))=true→p.size=poolN [] l→K p true at' o z)
  (h':(l.all abbrL && decide (poolN [] l≤256))=false→∀ p at' o z,K p false at' o z):Xq3p (NV l) K:=by
 unfold Xq3p Yq3p
 rw [NV_len]
 refine lp_ind (fun x=>l.length - x.1.2.2.2.2.2.2.1.toNat) (fun x=>∃ (j:Nat) (p:List UInt8) (hd:List (List UInt8×Int)) (at':List V),j≤l.length∧x=((S p,(),false,(),NV l,(l.length:Int),(j:Int),()),hadM hd,at',()) ∧
  (l.take j).all abbrL=true∧p.length+poolN (hd.map (·.1)) (l.drop j)=poolN [] l∧at'.length=j) ?_ ⟨0,[],[],[],by omega,rfl,rfl,by simp,rfl⟩
 rintro x ⟨j,p,hd,at',hj,rfl,hall,hp,hat⟩ k hk
 have hle:=poolN_le l [] hs
 unfold Lq3p_0
 simp only [decide_eq_true_eq,NV_len]
 by_cases e:j=l.length
 ·rw [if_neg (by omega)]
  rw [e,List.take_length] at hall
  rw [e,List.drop_length] at hp
  have hp':p.length=poolN [] l:=by simpa [poolN] using hp
  by_cases h2:((S p).size:Int) > 256
  ·rw [if_pos h2]
   rw [S_size] at h2
   exact h' (by rw [hall]; simp; omega) _ _ _ _
  ·rw [if_neg h2]
   rw [S_size] at h2
   exact h _ _ _ _ (by rw [S_size]; omega) (by rw [hall]; simp; omega) (by rw [S_size]; exact hp')
 ·have hj':j < l.length:=by omega
  rw [Int.toNat_natCast,if_pos (by omega),if_pos (by omega)]
  refine asN hj' ?_
  refine sabbr _ ?_
  have hd':l.drop j=l[j] :: l.drop (j+1):=List.drop_eq_getElem_cons hj'
  have ht:l.take (j+1)=l.take j++[l[j]]:=List.take_succ_eq_append_getElem hj'
  have hsl:=hs l[j] (List.getElem_mem hj')
  have hmem:=List.getElem_mem hj'
  rw [hd'] at hp
  generalize l[j]=s at *
  cases ha:abbrL s
  ·simp only [Bool.not_false,if_true]
   refine h' ?_ _ _ _ _
   have:l.all abbrL=false:=by
    rw [Bool.eq_false_iff]; intro h; rw [List.all_eq_true.1 h s hmem] at ha; cases ha
   rw [this]; rfl
  ·simp only [Bool.not_true,Bool.false_eq_true,if_false]
   rw [get_had]
   have hall':(l.take (j+1)).all abbrL=true:=by rw [ht,List.all_append,hall]; simp [ha]
   have e1:w64 ((j:Int)+1)=((j+1:Nat):Int):=by rw [w64_in (by omega) (by omega)]; omega
   have step:∀ (p':List UInt8) (hd2:List (List UInt8×Int)) (v:V),p'.length+poolN (hd2.map (·.1)) (l.drop (j+1))=poolN [] l→k ((S p',(),false,(),NV l,(l.length:Int),((j+1:Nat):Int),()),hadM hd2,at'++[v],()):=fun p' hd2 v hq=>by
    refine hk _ ⟨j+1,p',hd2,at'++[v],by omega,rfl,hall',hq,by simp [hat]⟩ ?_
    show l.length - ((j+1:Nat):Int).toNat < l.length - ((j:Nat):Int).toNat
    omega
   rw [poolN] at hp
   cases hf:hd.find? (fun x=>x.1 == s) with
   | none =>
    have hc:(hd.map (·.1)).contains s=false:=by
     rw [Bool.eq_false_iff]
     intro hc
     rw [List.contains_iff_mem,List.mem_map] at hc
     obtain ⟨y,hy,hys⟩:=hc
     have:=List.find?_eq_none.1 hf y hy
     simp [hys] at this
    rw [hc,if_neg (by simp)] at hp
    simp only [Option.map_none,Eng.asMpI,Bool.not_false,if_true,Option.isSome_some]
    have hps:p.length≤100000000:=by omega
    rw [if_neg (by rw [S_size]; omega)]
    have es:S s++ByteArray.mk #[(0:UInt8)]=S (s++[0]):=S_append s [0]
    rw [es,S_append,S_size,S_size,if_neg (by simp; omega)]
    simp only [lt]
    rw [if_pos (room8 _ (by simp; omega)),put_had s _ hd hf,e1]
    refine step (p++(s++[0])) (hd++[(s,(p.length:Int))]) _ ?_
    rw [← hp,poolN_congr (l.drop (j+1)) _ (s :: hd.map (·.1)) fun t=>by
     rw [Bool.eq_iff_iff,List.contains_iff_mem,List.contains_iff_mem,List.map_append,List.mem_append,List.mem_cons]
     simp only [List.map_cons,List.map_nil,List.mem_singleton]
     exact ⟨fun h=>h.symm,fun h=>h.symm⟩]
    simp only [List.length_append,List.length_singleton]
    omega
   | some y =>
    have hy:=List.find?_some hf
    have hc:(hd.map (·.1)).contains s=true:=by
     rw [List.contains_iff_mem,List.mem_map]
     exact ⟨y,List.mem_of_find?_eq_some hf,by simpa using hy⟩
    rw [hc,if_pos rfl] at hp
    simp only [Option.map_some,Eng.asMpI,if_true,Bool.not_true,Bool.false_eq_true,if_false]
    rw [if_pos (room8 _ (by simp; omega)),e1]
    exact step p hd _ hp
end Go.Proofs.YtbnpclndiichcaaGreatDoor
end
section
set_option linter.unusedVariables false
set_option linter.unusedSimpArgs false
namespace Go.Proofs.YtbnpclndiichcaaGreatDoor
open Go Go.Proofs.YtbnpclndiichcaaGreatDoor.Eng Go.Proofs.YtbnpclndiichcaaGreatDoor.Pl
set_option maxRecDepth 100000
set_option maxHeartbeats 2000000
structure ZI (z:Zn):Prop where
 ty:z.ty.length≤100
 tr:z.tr.length≤2000
 lp:z.lp.length≤300
 ft:z.ft.length≤5000
 nm:∀ t∈z.ty,t.2.2.length≤100
 ri:recI z.lp
 ti:recI z.tr
 v:i64r z.v
theorem tupZ_eq (z:Zn):tupZ z=(TV z.ty,RV z.tr,RV z.lp,S z.ft,z.v,()):=rfl
theorem spool (z:Zn) (h:ZI z) {K:ByteArray→Bool→List V→Bool→Bool→Prop}
  (hk:∀ p at' o y,p.size≤100000000→((z.ty.map (·.2.2)).all abbrL && decide (poolN [] (z.ty.map (·.2.2))≤256))=true→p.size=poolN [] (z.ty.map (·.2.2))→K p true at' o y)
  (hk':((z.ty.map (·.2.2)).all abbrL && decide (poolN [] (z.ty.map (·.2.2))≤256))=false→∀ p at' o y,K p false at' o y):Xq37 (tupZ z) K:=by
 unfold Xq37 Yq37
 simp only [tupZ_eq,TV_len]
 refine lp_at (fun j=>((ByteArray.mk #[],(),false,(),TV z.ty,(z.ty.length:Int),(j:Int),()),NV ((z.ty.map (·.2.2)).take j),())) z.ty.length rfl fun n hn k hkk=>?_
 unfold Lq37_0
 simp only [decide_eq_true_eq,TV_len]
 by_cases e:n=z.ty.length
 ·rw [if_neg (by omega),List.take_of_length_le (by simp; omega)]
  refine sPool _ (by have:=h.ty; simp; omega) (fun s hs=>?_) hk hk'
  obtain ⟨t,ht,rfl⟩:=List.mem_map.1 hs
  have:=h.nm t ht; omega
 ·have hn':n < z.ty.length:=by omega
  have hk':=hkk hn'
  have e1:w64 ((n:Int)+1)=((n+1:Nat):Int):=by have:=h.ty; rw [w64_in (by omega) (by omega)]; omega
  rw [Int.toNat_natCast,if_pos (by omega),if_pos (by omega)]
  refine asT1 hn' (asT2 hn' (asT3 hn' ?_))
  rw [if_pos (room16 _ (by rw [NV_len]; have:=h.ty; simp; omega)),e1]
  refine (congrArg k ?_).mp hk'
  have:NV ((z.ty.map (·.2.2)).take (n+1))=NV ((z.ty.map (·.2.2)).take n)++[.c (.string (S (z.ty[n]).2.2))]:=by
   rw [List.take_succ_eq_append_getElem (by simpa using hn')]
   simp [NV]
  rw [this]
theorem hwithin (n a b:Int) {K:Bool→Prop} (h:K (nin n a b)):Xq31 n a b K:=by
 unfold Xq31 Yq31
 unfold nin at h
 simp only [decide_eq_true_eq]
 by_cases h1:n≥a
 ·rw [if_pos h1]
  have:decide (a≤n∧n≤b)=decide (n≤b):=by simp; intro _; omega
  rw [this] at h; exact h
 ·rw [if_neg h1]
  have:decide (a≤n∧n≤b)=false:=by simp; omega
  rw [this] at h; exact h
theorem shead (v lp tr ty ch:Int) {K:Bool→Prop} (h:K (nin lp 0 201 && nin tr 0 2000 && nin ty 1 64 && nin ch 1 256 && nin v 1 4)):Xq36 (v,0,0,lp,tr,ty,ch,()) K:=by
 unfold Xq36 Yq36
 refine hwithin _ _ _ ?_
 cases h1:nin lp 0 201
 ·rw [h1] at h
  simp only [Bool.false_and] at h
  simp only [Bool.false_eq_true,if_false,beq_self_eq_true,if_true]
  exact h
 rw [h1] at h
 rw [if_pos rfl]
 refine hwithin _ _ _ ?_
 cases h2:nin tr 0 2000
 ·rw [h2] at h
  simp only [Bool.false_and,Bool.and_false] at h
  simp only [Bool.false_eq_true,if_false,beq_self_eq_true,if_true]
  exact h
 rw [h2] at h
 rw [if_pos rfl]
 refine hwithin _ _ _ ?_
 cases h3:nin ty 1 64
 ·rw [h3] at h
  simp only [Bool.false_and,Bool.and_false] at h
  simp only [Bool.false_eq_true,if_false,beq_self_eq_true,if_true]
  exact h
 rw [h3] at h
 rw [if_pos rfl]
 refine hwithin _ _ _ ?_
 simp only [beq_self_eq_true,if_true]
 cases h4:nin ch 1 256
 ·rw [h4] at h
  simp only [Bool.false_and,Bool.and_false] at h
  simp only [Bool.false_eq_true,if_false]
  exact h
 rw [h4] at h
 rw [if_pos rfl]
 refine hwithin _ _ _ ?_
 simpa using h
theorem scount (z:Zn) (h:ZI z) {K:Int×Int×Int×Int×Int×Int×Int×Unit→Bool→Prop} (hk:∀ r,K r (countOk z)):Xq2x (tupZ z) K:=by
 unfold Xq2x Yq2x
 have hk1:∀ r b,b=countOk z→K r b:=fun r b e=>e ▸ hk r
 refine spool z h (fun p at' o y hp hok hsz=>?_) fun hbad p at' o y=>?_
 ·rw [if_neg (by simp)]
  simp only [tupZ_eq,TV_len,RV_len,hsz]
  refine shead _ _ _ _ _ ?_
  have e:countOk z=(nin z.lp.length 0 201 && nin z.tr.length 0 2000 && nin z.ty.length 1 64 && nin (poolN [] (z.ty.map (·.2.2)):Nat) 1 256 && nin z.v 1 4):=by
   unfold countOk
   rw [hok,Bool.true_and]
  cases hb:(nin z.lp.length 0 201 && nin z.tr.length 0 2000 && nin z.ty.length 1 64 && nin (poolN [] (z.ty.map (·.2.2)):Nat) 1 256 && nin z.v 1 4)
  ·rw [if_pos (show (!false)=true from rfl)]; exact hk1 _ _ (by rw [e,hb])
  ·rw [if_neg (by simp)]; exact hk1 _ _ (by rw [e,hb])
 ·rw [if_pos (show (!false)=true from rfl)]
  refine hk1 _ _ ?_
  unfold countOk
  rw [hbad]; simp
theorem sallT (l:List Ty) (hl:l.length≤100000) {K:Bool→Prop} (h:K (l.all (fun t=>decide (-89999≤t.1∧t.1≤93599)))):Xq0t (TV l) K:=by
 unfold Xq0t Yq0t
 rw [TV_len]
 refine lp_ind (fun x=>l.length - x.1.2.2.2.2.1.toNat) (fun x=>∃ j:Nat,j≤l.length∧x=((((),()),false,TV l,(l.length:Int),(j:Int),()),())∧(l.take j).all (fun t=>decide (-89999≤t.1∧t.1≤93599))=true) ?_ ⟨0,by omega,rfl,rfl⟩
 rintro x ⟨j,hj,rfl,hall⟩ k hk
 unfold Lq0t_0
 simp only [decide_eq_true_eq,TV_len]
 by_cases e:j=l.length
 ·rw [if_neg (by omega)]
  rw [e,List.take_length] at hall
  rw [hall] at h; exact h
 ·have hj':j < l.length:=by omega
  rw [Int.toNat_natCast,if_pos (by omega),if_pos (by omega)]
  refine asT1 hj' (asT2 hj' (asT3 hj' ?_))
  have ht:l.take (j+1)=l.take j++[l[j]]:=List.take_succ_eq_append_getElem hj'
  have hmem:=List.getElem_mem hj'
  generalize l[j]=t at *
  have e1:w64 ((j:Int)+1)=((j+1:Nat):Int):=by rw [w64_in (by omega) (by omega)]; omega
  unfold Xq2t Yq2t
  simp only [decide_eq_true_eq,e1]
  have bad:¬ (-89999≤t.1∧t.1≤93599)→K false:=fun hn=>by
   have:l.all (fun t=>decide (-89999≤t.1∧t.1≤93599))=false:=by
    rw [Bool.eq_false_iff]; intro hh; exact hn (by simpa using List.all_eq_true.1 hh t hmem)
   rw [this] at h; exact h
  by_cases h1:t.1≥-89999
  ·rw [if_pos h1]
   by_cases h2:t.1≤93599
   ·rw [if_neg (by simpa using h2)]
    refine hk _ ⟨j+1,by omega,rfl,?_⟩ ?_
    ·rw [ht,List.all_append,hall]; simp; exact ⟨h1,h2⟩
    ·show l.length - ((j+1:Nat):Int).toNat < l.length - ((j:Nat):Int).toNat
     omega
   ·rw [if_pos (by simpa using h2)]; exact bad (by omega)
  ·rw [if_neg h1,if_pos (by simp)]; exact bad (by omega)
end Go.Proofs.YtbnpclndiichcaaGreatDoor
end
section
set_option linter.unusedVariables false
set_option linter.unusedSimpArgs false
namespace Go.Proofs.YtbnpclndiichcaaGreatDoor
open Go Go.Proofs.YtbnpclndiichcaaGreatDoor.Eng Go.Proofs.YtbnpclndiichcaaGreatDoor.Pl
def i64 (n:Int):Prop:=-9223372036854775808≤n∧n≤9223372036854775807
theorem not_true (b:Bool):((!b)=true)=¬ (b=true):=by cases b <;> simp
end Go.Proofs.YtbnpclndiichcaaGreatDoor
end
section
set_option linter.unusedVariables false
set_option linter.unusedSimpArgs false
namespace Go.Proofs.YtbnpclndiichcaaGreatDoor
open Go Go.Proofs.YtbnpclndiichcaaGreatDoor.Eng Go.Proofs.YtbnpclndiichcaaGreatDoor.Pl
set_option maxRecDepth 100000
set_option maxHeartbeats 2000000
def Srt (l:List Rec):Prop:=∀ (s t:Nat) (hs:s < l.length) (ht:t < l.length),s≤t→(l[s]).1≤(l[t]).1
def Bin (q:Rec→Bool) (l:List Rec) (i j:Nat):Prop:=i≤j∧j≤l.length∧(∀ t (ht:t < l.length),t < i→q l[t]=false)∧(∀ t (ht:t < l.length),j≤t→q l[t]=true)
def Mono (q:Rec→Bool) (l:List Rec):Prop:=∀ (s t:Nat) (hs:s < l.length) (ht:t < l.length),s≤t→q l[s]=true→q l[t]=true
theorem Bin.low {q:Rec→Bool} {l:List Rec} {i j h:Nat} (hb:Bin q l i j) (hm:Mono q l) (h1:i≤h) (h2:h < j) (hl:h < l.length) (hq:q l[h]=false):Bin q l (h+1) j:=by
 obtain ⟨b1,b2,b3,b4⟩:=hb
 refine ⟨by omega,b2,fun t ht hlt=>?_,b4⟩
 cases e:q l[t]
 ·rfl
 ·rw [hm t h ht hl (by omega) e] at hq; cases hq
theorem Bin.fl {q:Rec→Bool} {l:List Rec} {i:Nat} (hb:Bin q l i i):Pl.fl q l=i:=by
 obtain ⟨b1,b2,b3,b4⟩:=hb
 exact fl_of q l i b2 b3 fun h=>b4 i h (Nat.le_refl _)
end Go.Proofs.YtbnpclndiichcaaGreatDoor
end
section
set_option linter.unusedVariables false
set_option linter.unusedSimpArgs false
namespace Go.Proofs.YtbnpclndiichcaaGreatDoor
open Go Go.Proofs.YtbnpclndiichcaaGreatDoor.Eng Go.Proofs.YtbnpclndiichcaaGreatDoor.Pl
set_option maxRecDepth 100000
set_option maxHeartbeats 2000000
theorem trOk_cons (n:Nat) (b:Option Int) (c:Rec) (r:List Rec):trOk n b (c :: r)=true↔((0≤c.2∧c.2 < n)∧(∀ a,b=some a→c.1 > a))∧trOk n (some c.1) r=true:=by
 cases b with
 | none=>simp [trOk]
 | some a=>simp [trOk]
theorem sallTr (ty:List Ty) (tr:List Rec) (hl:tr.length≤100000) (lp:List V) (ft:ByteArray) (v:Int) {K} (h:K (trOk ty.length none tr) ft v (TV ty) false true (RV tr) false true lp false true) :
  Xq0i (RV tr) (TV ty) (RV tr) lp ft v K:=by
 unfold Xq0i Yq0i
 rw [RV_len]
 refine lp_ind (fun x=>tr.length - x.1.2.2.2.2.1.toNat) (fun x=>∃ (j:Nat) (b:Option Int),j≤tr.length∧x=((((),(),()),false,RV tr,(tr.length:Int),(j:Int),()),(TV ty,RV tr,lp,ft,v,()),())∧trOk ty.length b (tr.drop j)=trOk ty.length none tr∧(j=0→b=none)∧(∀ (h0:0 < j) (hj:j - 1 < tr.length),b=some (tr[j - 1]).1)) ?_ ⟨0,none,by omega,rfl,rfl,fun _=>rfl,fun h=>absurd h (by omega)⟩
 rintro x ⟨j,b,hj,rfl,hok,hb0,hb1⟩ k hk
 unfold Lq0i_0
 simp only [decide_eq_true_eq,RV_len]
 by_cases e:j=tr.length
 ·rw [if_neg (by omega)]
  have:trOk ty.length none tr=true:=by rw [← hok,e,List.drop_length]; rfl
  rw [this] at h; exact h
 ·have hj':j < tr.length:=by omega
  rw [Int.toNat_natCast,if_pos (by omega),if_pos (by omega)]
  refine asR1 hj' (asR2 hj' ?_)
  have hd:tr.drop j=tr[j] :: tr.drop (j+1):=List.drop_eq_getElem_cons hj'
  rw [hd] at hok
  have hcons:=trOk_cons ty.length b tr[j] (tr.drop (j+1))
  rw [hok] at hcons
  have e1:w64 ((j:Int)+1)=((j+1:Nat):Int):=by rw [w64_in (by omega) (by omega)]; omega
  have bad:∀ w,w=false→¬ ((0≤(tr[j]).2∧(tr[j]).2 < ty.length)∧(∀ a,b=some a→(tr[j]).1 > a))→K w ft v (TV ty) false true (RV tr) false true lp false true:=fun w hw hn=>by
   have:trOk ty.length none tr=false:=by
    cases hr:trOk ty.length none tr
    ·rfl
    ·exact absurd (hcons.1 hr).1 hn
   rw [this] at h; rw [hw]; exact h
  have good:((0≤(tr[j]).2∧(tr[j]).2 < ty.length)∧(∀ a,b=some a→(tr[j]).1 > a))→k ((((),(),()),false,RV tr,(tr.length:Int),((j+1:Nat):Int),()),(TV ty,RV tr,lp,ft,v,()),()):=fun hg=>by
   refine hk _ ⟨j+1,some (tr[j]).1,by omega,rfl,?_,fun h=>absurd h (by omega),fun h0 hj=>rfl⟩ ?_
   ·rw [Bool.eq_iff_iff]
    exact ⟨fun hr=>hcons.2 ⟨hg,hr⟩,fun hr=>(hcons.1 hr).2⟩
   ·show tr.length - ((j+1:Nat):Int).toNat < tr.length - ((j:Nat):Int).toNat
    omega
  unfold Xq2q Yq2q
  simp only [decide_eq_true_eq,TV_len,RV_len,beq_iff_eq,e1]
  by_cases c1:(tr[j]).2≥0
  ·rw [if_pos c1]
   by_cases c2:(tr[j]).2 < (ty.length:Int)
   ·rw [if_pos c2]
    by_cases c3:j=0
    ·rw [if_pos (by omega),if_neg (by simp)]
     exact good ⟨⟨c1,c2⟩,fun a ha=>by rw [hb0 c3] at ha; cases ha⟩
    ·rw [if_neg (by omega)]
     have e2:w64 ((j:Int) - 1)=((j - 1:Nat):Int):=by rw [w64_in (by omega) (by omega)]; omega
     rw [e2,if_pos (by omega),Int.toNat_natCast]
     refine asR1 (by omega) ?_
     have hb:=hb1 (by omega) (by omega)
     by_cases c4:(tr[j]).1 > (tr[j - 1]'(by omega)).1
     ·rw [if_neg (by simpa using c4)]
      exact good ⟨⟨c1,c2⟩,fun a ha=>by rw [hb] at ha; cases ha; exact c4⟩
     ·rw [if_pos (by simpa using c4)]
      exact bad _ rfl fun hn=>c4 (hn.2 _ hb)
   ·rw [if_neg c2,if_pos (show (!false)=true from rfl)]
    exact bad _ rfl fun hn=>c2 hn.1.2
  ·rw [if_neg c1,if_pos (show (!false)=true from rfl)]
   exact bad _ rfl fun hn=>c1 hn.1.1
theorem sodd (k a b c x:Int) {K:Bool→Prop} (h:K (oddR x)):Xq3w (k,a,b,c,x,()) K:=by
 unfold Xq3w Yq3w
 unfold oddR at h
 simp only [decide_eq_true_eq]
 by_cases h1:x < 0
 ·rw [if_pos h1]
  have:decide (x < 0)=true:=decide_eq_true h1
  rw [this] at h; exact h
 ·rw [if_neg h1]
  have:decide (x < 0)=false:=decide_eq_false h1
  rw [this] at h; exact h
theorem S_nil (l:List UInt8):(ByteArray.toList (S l) == ByteArray.toList (ByteArray.mk #[]))=l.isEmpty:=by
 rw [show ByteArray.mk #[]=S [] from rfl,S_toList,S_toList]
 cases l <;> rfl
theorem sends (z:Zn) (h:ZI z) (X Y L) {K:Bool→Prop} (hk:K (endsOk z)):Xq3r (X,Y,L,S z.ft,z.v,()) K:=by
 unfold Xq3r Yq3r
 simp only [S_nil]
 unfold endsOk at hk
 cases e:z.ft.isEmpty
 ·rw [e] at hk
  rw [if_neg (by simp)]
  refine sfootParse z.ft (by have:=h.ft; omega) ?_
  refine sodd _ _ _ _ _ ?_
  simp only [Bool.false_or] at hk
  generalize (Ft.parse z.ft).1=f at *
  generalize (Ft.parse z.ft).2=o at *
  have ge:∀ n:Int,n=3∨n=2→True:=fun _ _=>trivial
  cases h1:oddR f.fr.x
  ·rw [if_neg (by simp)]
   refine sodd _ _ _ _ _ ?_
   rw [h1] at hk
   cases h2:oddR f.to.x
   ·rw [h2] at hk
    rw [if_neg (by simp)]
    cases o
    ·simpa using hk
    ·simpa using hk
   ·rw [h2] at hk
    rw [if_pos rfl]
    cases o
    ·simpa using hk
    ·simpa using hk
  ·rw [h1] at hk
   rw [if_pos rfl]
   cases o
   ·simpa using hk
   ·simpa using hk
 ·rw [e] at hk
  rw [if_pos rfl]
  exact hk
theorem sRight (z:Zn) (h:ZI z) {K:Bool→Prop} (hk:K (zoneRight z)):Xq34 (tupZ z) K:=by
 show Xq34 (TV z.ty,RV z.tr,RV z.lp,S z.ft,z.v,()) K
 unfold Xq34 Yq34
 dsimp only
 unfold zoneRight at hk
 refine scount z h fun r=>?_
 cases e1:countOk z
 ·rw [e1] at hk
  rw [if_pos (show (!false)=true from rfl)]
  simpa using hk
 rw [e1] at hk
 rw [if_neg (by simp)]
 refine sRecRight z.lp h.ri (by have:=h.lp; omega) ?_
 cases e2:recRight z.lp
 ·rw [e2] at hk
  rw [if_pos (show (!false)=true from rfl)]
  simpa using hk
 rw [e2] at hk
 rw [if_neg (by simp)]
 refine sExpiry z.lp (by have:=h.lp; omega) fun n=>?_
 have rest:∀ {K:Bool→Prop},K (z.ty.all (fun t=>decide (-89999≤t.1∧t.1≤93599)) && trOk z.ty.length none z.tr && endsOk z)→Xq0t (TV z.ty) (fun r20 =>
   Xq0i (RV z.tr) (TV z.ty) (RV z.tr) (RV z.lp) (S z.ft) z.v (fun r21 r22 r23 r24 r25 r26 r27 r28 r29 r30 r31 r32 =>
   (if r20=true then (if r21=true then Xq3r (r24,r27,r30,r22,r23,()) (fun r33=>K r33) else K false) else K false))):=by
  intro K hk
  refine sallT z.ty (by have:=h.ty; omega) ?_
  refine sallTr z.ty z.tr (by have:=h.tr; omega) _ _ _ ?_
  cases e4:z.ty.all (fun t=>decide (-89999≤t.1∧t.1≤93599))
  ·rw [e4] at hk
   rw [if_neg (by simp)]
   simpa using hk
  rw [e4] at hk
  rw [if_pos rfl]
  cases e5:trOk z.ty.length none z.tr
  ·rw [e5] at hk
   rw [if_neg (by simp)]
   simpa using hk
  rw [e5] at hk
  rw [if_pos rfl]
  exact sends z h _ _ _ (by simpa using hk)
 cases e3:lastExp z.lp
 ·rw [e3] at hk
  rw [if_neg (by simp)]
  exact rest (by simpa [Bool.and_assoc] using hk)
 ·rw [e3] at hk
  rw [if_pos rfl]
  by_cases e6:z.v < 4
  ·rw [if_pos (by simpa using e6)]
   have:decide (z.v≥4)=false:=by simp; omega
   rw [this] at hk
   simpa using hk
  ·rw [if_neg (by simpa using e6)]
   have:decide (z.v≥4)=true:=by simp; omega
   rw [this] at hk
   exact rest (by simpa [Bool.and_assoc] using hk)
end Go.Proofs.YtbnpclndiichcaaGreatDoor
end
section
set_option linter.unusedVariables false
set_option linter.unusedSimpArgs false
namespace Go.Proofs.YtbnpclndiichcaaGreatDoor
open Go Go.Proofs.YtbnpclndiichcaaGreatDoor.Eng Go.Proofs.YtbnpclndiichcaaGreatDoor.Pl
set_option maxRecDepth 100000
set_option maxHeartbeats 2000000
theorem trOk_all (n:Nat):∀ (l:List Rec) (b:Option Int),trOk n b l=true→(∀ i (h:i < l.length),(∀ a,b=some a→(l[i]).1 > a)∧0≤(l[i]).2∧(l[i]).2 < n)∧(∀ (s t:Nat) (hs:s < l.length) (ht:t < l.length),s < t→(l[s]).1 < (l[t]).1)
 | [],b,h=>⟨fun i h=>by simp at h,fun s t hs=>by simp at hs⟩
 | c :: r,b,h=>by
  obtain ⟨⟨h1,h2⟩,h3⟩:=(trOk_cons n b c r).1 h
  obtain ⟨ih1,ih2⟩:=trOk_all n r (some c.1) h3
  refine ⟨fun i hi=>?_,fun s t hs ht hst=>?_⟩
  ·cases i with
   | zero=>exact ⟨h2,h1⟩
   | succ i =>
    obtain ⟨q1,q2⟩:=ih1 i (by simpa using hi)
    refine ⟨fun a ha=>?_,q2⟩
    have:=q1 _ rfl
    have:=h2 a ha
    simp only [List.getElem_cons_succ]
    omega
  ·cases t with
   | zero=>omega
   | succ t =>
    cases s with
    | zero=>exact (ih1 t (by simpa using ht)).1 _ rfl
    | succ s=>exact ih2 s t (by simpa using hs) (by simpa using ht) (by omega)
theorem srt_tr {n:Nat} {l:List Rec} (h:trOk n none l=true):Srt l:=fun s t hs ht hst=>by
 rcases Nat.lt_or_ge s t with h1 | h1
 ·have:=(trOk_all n l none h).2 s t hs ht h1; omega
 ·have:s=t:=by omega
  subst this; omega
theorem recOk_all:∀ (l:List Rec) (k:Nat) (b:Rec),recOk k b l=true→(∀ i (h:i < l.length),(0 < k→b.1≤(l[i]).1)∧0≤(l[i]).1)∧(∀ (s t:Nat) (hs:s < l.length) (ht:t < l.length),s < t→(l[s]).1≤(l[t]).1)
 | [],k,b,h=>⟨fun i h=>by simp at h,fun s t hs=>by simp at hs⟩
 | c :: r,k,b,h=>by
  obtain ⟨⟨h1,h2,h3,h4⟩,h5⟩:=(recOk_cons k b c r).1 h
  obtain ⟨ih1,ih2⟩:=recOk_all r (k+1) c h5
  refine ⟨fun i hi=>?_,fun s t hs ht hst=>?_⟩
  ·cases i with
   | zero=>exact ⟨fun h=>by simp only [List.getElem_cons_zero]; omega,h2⟩
   | succ i =>
    obtain ⟨q1,q2⟩:=ih1 i (by simpa using hi)
    refine ⟨fun hk=>?_,q2⟩
    have:=q1 (by omega)
    simp only [List.getElem_cons_succ]
    omega
  ·cases t with
   | zero=>omega
   | succ t =>
    cases s with
    | zero=>exact (ih1 t (by simpa using ht)).1 (by omega)
    | succ s=>exact ih2 s t (by simpa using hs) (by simpa using ht) (by omega)
theorem srt_rec {l:List Rec} (h:recRight l=true):Srt l:=fun s t hs ht hst=>by
 rcases Nat.lt_or_ge s t with h1 | h1
 ·have:=(recOk_all l 0 _ h).2 s t hs ht h1; omega
 ·have:s=t:=by omega
  subst this; omega
theorem srt_leaps {l:List Rec} (h:Srt l):Srt (leapsR l):=by
 unfold leapsR
 split
 ·intro s t hs ht hst
  rw [List.getElem_take,List.getElem_take]
  exact h s t _ _ hst
 ·exact h
structure ZR (z:Zn):Prop extends ZI z where
 right:zoneRight z=true
theorem ZR.all {z:Zn} (h:ZR z):countOk z=true∧recRight z.lp=true∧(lastExp z.lp=true→z.v≥4)∧(z.ty.all (fun t=>decide (-89999≤t.1∧t.1≤93599))=true)∧trOk z.ty.length none z.tr=true∧endsOk z=true:=by
 have:=h.right
 unfold zoneRight at this
 simp only [Bool.and_eq_true] at this
 obtain ⟨⟨⟨⟨⟨h1,h2⟩,h3⟩,h4⟩,h5⟩,h6⟩:=this
 refine ⟨h1,h2,fun he=>?_,h4,h5,h6⟩
 rw [he] at h3
 simpa using h3
theorem ZR.one {z:Zn} (h:ZR z):1≤z.ty.length:=by
 have:=h.all.1
 unfold countOk nin at this
 simp only [Bool.and_eq_true,decide_eq_true_eq] at this
 omega
theorem ZR.st {z:Zn} (h:ZR z):Srt z.tr:=srt_tr h.all.2.2.2.2.1
theorem ZR.sl {z:Zn} (h:ZR z):Srt (leapsR z.lp):=srt_leaps (srt_rec h.all.2.1)
end Go.Proofs.YtbnpclndiichcaaGreatDoor
end
section
set_option linter.unusedVariables false
set_option linter.unusedSimpArgs false
namespace Go.Proofs.YtbnpclndiichcaaGreatDoor
open Go Go.Proofs.YtbnpclndiichcaaGreatDoor.Eng Go.Proofs.YtbnpclndiichcaaGreatDoor.Pl
set_option maxRecDepth 100000
set_option maxHeartbeats 2000000
def sameZ (a b:Zn):Bool:=a.ty == b.ty && a.tr == b.tr && a.lp == b.lp && a.ft == b.ft && a.v == b.v
theorem sFew (z:Zn) (hl:z.ty.length≤9223372036854775807) {K:Bool→Prop} (h1:(z.ty.length≤100∧z.tr.length≤300∧z.lp.length≤300∧z.ft.length≤200∧(∀ t∈z.ty,t.2.2.length≤100))→K true) (h2:K false):Xq2c (tupZ z) K:=by
 show Xq2c (TV z.ty,RV z.tr,RV z.lp,S z.ft,z.v,()) K
 unfold Xq2c Yq2c
 have fin:(∀ i (h:i < z.ty.length),i < 100→((z.ty[i]).2.2).length≤100)→(if decide ((z.ty.length:Int)≤100)=true then (if decide ((z.tr.length:Int)≤300)=true then (if decide ((z.lp.length:Int)≤300)=true then K (decide (((S z.ft).size:Int)≤200)) else K false) else K false) else K false):=fun hall=>by
  rw [S_size]
  by_cases c1:(z.ty.length:Int)≤100
  ·rw [if_pos (decide_eq_true c1)]
   by_cases c2:(z.tr.length:Int)≤300
   ·rw [if_pos (decide_eq_true c2)]
    by_cases c3:(z.lp.length:Int)≤300
    ·rw [if_pos (decide_eq_true c3)]
     by_cases c4:(z.ft.length:Int)≤200
     ·rw [decide_eq_true c4]
      refine h1 ⟨by omega,by omega,by omega,by omega,fun t ht=>?_⟩
      obtain ⟨i,hi,rfl⟩:=List.getElem_of_mem ht
      exact hall i hi (by omega)
     ·rw [decide_eq_false c4]; exact h2
    ·rw [if_neg (by simpa using c3)]; exact h2
   ·rw [if_neg (by simpa using c2)]; exact h2
  ·rw [if_neg (by simpa using c1)]; exact h2
 refine lp_ind (fun x=>101 - x.1.2.2.1.toNat) (fun x=>∃ j:Nat,j≤100∧j≤z.ty.length∧x=(((),false,(j:Int),()),(TV z.ty,RV z.tr,RV z.lp,S z.ft,z.v,()),())∧(∀ i (h:i < z.ty.length),i < j→((z.ty[i]).2.2).length≤100)) ?_ ⟨0,by omega,by omega,rfl,fun i h hi=>by omega⟩
 rintro x ⟨j,hj,hj2,rfl,hall⟩ k hk
 unfold Lq2c_0
 dsimp only
 rw [TV_len,RV_len,RV_len]
 by_cases c1:(j:Int) < (z.ty.length:Int)
 ·rw [if_pos (decide_eq_true c1)]
  by_cases c2:(j:Int) < 100
  ·rw [if_pos (decide_eq_true c2),if_pos (by omega),Int.toNat_natCast]
   have hj':j < z.ty.length:=by omega
   refine asT3 hj' ?_
   rw [S_size]
   by_cases c3:(((z.ty[j]).2.2).length:Int) > 100
   ·rw [if_pos (decide_eq_true c3)]; exact h2
   ·rw [if_neg (by simpa using c3)]
    have e1:w64 ((j:Int)+1)=((j+1:Nat):Int):=by rw [w64_in (by omega) (by omega)]; omega
    rw [e1]
    refine hk _ ⟨j+1,by omega,by omega,rfl,fun i hi hij=>?_⟩ ?_
    ·by_cases ei:i=j
     ·subst ei; omega
     ·exact hall i hi (by omega)
    ·show 101 - ((j+1:Nat):Int).toNat < 101 - ((j:Nat):Int).toNat
     omega
  ·rw [if_neg (by simpa using c2)]
   exact fin fun i hi h100=>hall i hi (by omega)
 ·rw [if_neg (by simpa using c1)]
  exact fin fun i hi h100=>hall i hi (by omega)
end Go.Proofs.YtbnpclndiichcaaGreatDoor
end
section
set_option linter.unusedVariables false
set_option linter.unusedSimpArgs false
namespace Go.Proofs.YtbnpclndiichcaaGreatDoor
open Go Go.Proofs.YtbnpclndiichcaaGreatDoor.Eng Go.Proofs.YtbnpclndiichcaaGreatDoor.Pl
set_option maxRecDepth 100000
set_option maxHeartbeats 2000000
structure ZG (z:Zn):Prop where
 ri:recI z.lp
 ti:recI z.tr
 v:i64r z.v
 tl:z.ty.length≤9223372036854775807
theorem ZG.zi {z:Zn} (h:ZG z) (hf:z.ty.length≤100∧z.tr.length≤300∧z.lp.length≤300∧z.ft.length≤200∧(∀ t∈z.ty,t.2.2.length≤100)):ZI z :=
 ⟨hf.1,by omega,hf.2.2.1,by omega,hf.2.2.2.2,h.ri,h.ti,h.v⟩
end Go.Proofs.YtbnpclndiichcaaGreatDoor
end
section
set_option linter.unusedVariables false
set_option linter.unusedSimpArgs false
namespace Go.Proofs.YtbnpclndiichcaaGreatDoor
open Go Go.Proofs.YtbnpclndiichcaaGreatDoor.Eng Go.Proofs.YtbnpclndiichcaaGreatDoor.Pl
set_option maxRecDepth 100000
set_option maxHeartbeats 2000000
def prevR (b:Rec) (l:List Rec) (i:Nat):Rec:=if i=0 then b else l.getD (i - 1) (0,0)
end Go.Proofs.YtbnpclndiichcaaGreatDoor
end
section
set_option linter.unusedVariables false
set_option linter.unusedSimpArgs false
namespace Go.Proofs.YtbnpclndiichcaaGreatDoor
open Go Go.Proofs.YtbnpclndiichcaaGreatDoor.Eng Go.Proofs.YtbnpclndiichcaaGreatDoor.Pl
set_option maxRecDepth 100000
set_option maxHeartbeats 4000000
theorem room1 (n:Nat) (h:n≤1000000000):roomOk n 1=true:=by
 unfold roomOk; simp only [decide_eq_true_eq]; omega
theorem B8_app (a b:List UInt8):B8 a++B8 b=B8 (a++b):=by simp [B8]
theorem tMay (k:Nat) (hk:k=1∨k=4∨k=8) (n:Int) (hn:k=8→i64r n) {K:Bool→Prop} (h:K (fits k n)):Xq3i n (k:Int) K:=by
 unfold Xq3i Yq3i
 unfold fits at h
 unfold i64r at hn
 rcases hk with rfl | rfl | rfl
 ·rw [if_pos (by decide)]
  rw [if_pos rfl] at h
  have e:w64 (wu8 n)=n % 256:=by rw [wu8_mod,w64_in (by omega) (by omega)]
  have e2:(n == w64 (wu8 n))=decide (0≤n∧n < 256):=by
   rw [e,Bool.eq_iff_iff,beq_iff_eq,decide_eq_true_eq]; omega
  rw [e2]; exact h
 ·rw [if_neg (by decide),if_pos (by decide)]
  rw [if_neg (by decide)] at h
  have hw:-2147483648≤wi32 n∧wi32 n≤2147483647:=by
   simp only [wi32,IntKind.wrap,IntKind.bits,IntKind.signed]
   simp
   split <;> omega
  have e:=wi32_in n
  rw [w64_in (n:=wi32 n) (by omega) (by omega)]
  by_cases c:wi32 n=n
  ·rw [if_neg (by simp [c])]
   have:=e.1 c
   rw [show decide (-((256:Int) ^ 4 / 2)≤n∧n < (256:Int) ^ 4 / 2)=true by rw [decide_eq_true_eq]; omega] at h
   exact h
  ·rw [if_pos (by simpa using fun q:n=wi32 n=>c q.symm)]
   have:¬ (-2147483648≤n∧n≤2147483647):=fun q=>c (e.2 q)
   rw [show decide (-((256:Int) ^ 4 / 2)≤n∧n < (256:Int) ^ 4 / 2)=false by rw [decide_eq_false_iff_not]; omega] at h
   exact h
 ·rw [if_neg (by decide),if_neg (by decide),if_pos (by decide)]
  have hn:=hn rfl
  rw [if_neg (by decide),show decide (-((256:Int) ^ 8 / 2)≤n∧n < (256:Int) ^ 8 / 2)=true by rw [decide_eq_true_eq]; omega] at h
  exact h
theorem tClone (l:List UInt8) (hl:l.length≤100000000) {K:List V→Bool→Bool→Prop} (h:∀ f,K (B8 l) true f):Xq0b (B8 l) K:=by
 unfold Xq0b Yq0b
 rw [B8_len,List.nil_append,Nat.zero_add,if_pos (room1 _ (by omega))]
 by_cases e:l.length=0
 ·have e0:l=[]:=List.length_eq_zero_iff.1 e
  subst e0
  rw [if_pos (show ([]:List UInt8).length=0 from rfl)]
  exact ⟨h _,h _⟩
 ·rw [if_neg e]; exact h _
theorem tPut (l:List UInt8) (hl:l.length≤10000000) (k:Nat) (hk:k=1∨k=4∨k=8) (n:Int) (hn:k=8→i64r n) {K:Bool→List V→Bool→Bool→Prop}
  (h:∀ f,K (fits k n) (B8 (l++if fits k n=true then be k n else [])) true f):Xq3s (B8 l) n (k:Int) K:=by
 unfold Xq3s Yq3s
 refine tClone l (by omega) fun f=>?_
 refine tMay k hk n hn ?_
 cases hf:fits k n
 ·rw [if_pos (by rfl)]
  have:=h f
  rw [hf] at this; simpa using this
 rw [if_neg (by simp)]
 rw [hf] at h
 refine lp_ind (fun x=>x.1.2.2.2.2.1.toNat) (fun x=>∃ (m:Nat) (pre:List UInt8),m≤k∧pre++be m n=be k n∧x=((n,(),false,(),(m:Int),()),(B8 (l++pre),true,f),())) ?_ ⟨k,[],Nat.le_refl _,rfl,by simp⟩
 rintro x ⟨m,pre,hm,hp,rfl⟩ k' hk'
 unfold Lq3s_0
 dsimp only
 have hlen:=congrArg List.length hp
 rw [List.length_append,be_len,be_len] at hlen
 cases m with
 | zero =>
  rw [if_neg (dneg (by omega))]
  rw [be,List.append_nil] at hp
  have:=h f
  rw [if_pos rfl,← hp] at this
  exact this
 | succ m =>
  rw [if_pos (decide_eq_true (by omega))]
  have e1:w64 (((m+1:Nat):Int) - 1)=(m:Int):=by rw [w64_in (by omega) (by omega)]; omega
  have e2:w64 (8 * (m:Int))=8 * (m:Int):=w64_in (by omega) (by omega)
  simp only [lt,e1,e2]
  rw [if_neg (by omega),if_pos trivial,put_byte n m (by omega),if_pos (room1 _ (by rw [B8_len]; simp; omega))]
  refine hk' _ ⟨m,pre++[UInt8.ofNat ((n / (256:Int) ^ m) % 256).toNat],by omega,?_,?_⟩ (by show (m:Int).toNat < ((m+1:Nat):Int).toNat; omega)
  ·rw [← hp,be]; simp
  ·rw [← List.append_assoc]
   simp [B8]
theorem tWrite (n:Int) (k:Nat) (hn:k=8→i64r n) (hk:k=1∨k=4∨k=8) (bad:Bool) (l:List UInt8) (hl:l.length≤10000000) (f:Bool) {K:Bool→List V→Bool→Bool→Prop}
  (h:K (bad || !fits k n) (B8 (l++if fits k n=true then be k n else [])) true f):Xq0q n (k:Int) bad (B8 l) true f K:=by
 unfold Xq0q Yq0q
 refine tPut [] (by simp) k hk n hn fun f'=>?_
 rw [List.nil_append]
 have hl2:(if fits k n=true then be k n else []).length≤8:=by
  split
  ·rw [be_len]; omega
  ·simp
 rw [if_pos rfl,if_pos (room1 _ (by rw [B8_len,B8_len]; omega)),B8_app]
 cases bad
 ·rw [if_neg (by simp)]; simpa using h
 ·rw [if_pos rfl]; simpa using h
end Go.Proofs.YtbnpclndiichcaaGreatDoor
end
section
set_option linter.unusedVariables false
set_option linter.unusedSimpArgs false
namespace Go.Proofs.YtbnpclndiichcaaGreatDoor
open Go Go.Proofs.YtbnpclndiichcaaGreatDoor.Eng Go.Proofs.YtbnpclndiichcaaGreatDoor.Pl
set_option maxRecDepth 100000
set_option maxHeartbeats 4000000
theorem B8_cut (l:List UInt8) (a n:Nat):cutL (B8 l) a n=B8 ((l.drop a).take n):=by simp [cutL,B8]
theorem tOpen (l:List UInt8) (hl:l.length≤100000000) {K:Bool→List V→Bool→Bool→Prop} (h:∀ f,K false (B8 l) true f):Xq3a (B8 l) K:=by
 unfold Xq3a Yq3a
 exact tClone l hl fun f=>h f
theorem lp_stopN {α:Type} {F:(α→Prop)→α→Prop} {x:α} (h:∀ k,F k x):Eng.lp F x:=(lp_ind (fun _=>0) (fun y=>y=x) (fun y hy k _=>hy ▸ h k) rfl)
theorem tTake (n:Nat) (bad:Bool) (l:List UInt8) (hl:l.length≤100000000) (o f:Bool) {K:Bool→List V→Bool→Bool→List V→Bool→Bool→Prop}
  (h:bad=false→n≤l.length→∀ f',K false (B8 (l.take n)) true f' (B8 (l.drop n)) false true) (h':(bad=true∨l.length < n)→K true [] true true [] true true):Xq0v (n:Int) bad (B8 l) o f K:=by
 unfold Xq0v Yq0v
 cases bad
 ·rw [if_neg (by simp),if_neg (dneg (by omega)),B8_len]
  by_cases e:l.length < n
  ·rw [if_pos (decide_eq_true (by omega))]; exact h' (.inr e)
  ·rw [if_neg (dneg (by omega)),if_pos (by omega),if_pos (by omega),Int.toNat_natCast,Int.toNat_natCast,B8_cut,B8_cut,List.drop_zero,Nat.sub_zero]
   refine tClone _ (by rw [List.length_take]; omega) fun f'=>?_
   have e9:List.take (l.length - n) (l.drop n)=l.drop n:=List.take_of_length_le (by rw [List.length_drop]; omega)
   rw [if_pos (by omega),if_pos (by omega),e9]
   exact h rfl (by omega) f'
 ·rw [if_pos rfl]; exact h' (.inl rfl)
theorem tNum (k:Nat) (hk:k=1∨k=4∨k=8) (bad:Bool) (l:List UInt8) (hl:l.length≤100000000) (o f:Bool) {K:Int→Bool→List V→Bool→Bool→Prop}
  (h:bad=false→k≤l.length→K (numB (l.take k)) false (B8 (l.drop k)) false true) (h':(bad=true∨l.length < k)→K 0 true [] true true):Xq1l (k:Int) bad (B8 l) o f K:=by
 unfold Xq1l Yq1l
 refine tMay k hk 0 (fun _=>⟨by decide,by decide⟩) ?_
 have hf:fits k 0=true:=by rcases hk with rfl | rfl | rfl <;> decide
 rw [hf,if_neg (by simp)]
 refine tTake k bad l hl o f (fun hb hn f'=>?_) fun hb=>?_
 ·have hd:(l.take k).length=k:=by rw [List.length_take]; omega
  have h:=h hb hn
  rw [← acc_num hk hd] at h
  generalize l.take k=d at *
  rw [B8_len]
  refine lp_ind (fun x=>d.length - x.1.2.2.2.2.1.toNat) (fun x=>∃ j:Nat,j≤d.length∧x=(((k:Int),accN k (d.take j),(),(d.length:Int),(j:Int),()),((),false,()),(B8 (l.drop k),false,true),(B8 d,true,f'),())) ?_ ⟨0,by omega,by rw [List.take_zero,acc_nil]; rfl⟩
  rintro x ⟨j,hj,rfl⟩ k' hk'
  unfold Lq1l_0
  dsimp only
  rw [B8_len,Int.toNat_natCast]
  by_cases e:j < d.length
  ·have e1:w64 ((j:Int)+1)=((j+1:Nat):Int):=by rw [w64_in (by omega) (by omega)]; omega
   rw [if_pos (decide_eq_true (by omega)),if_pos (by omega),e1]
   refine asB8 e ?_
   have ht:d.take (j+1)=d.take j++[d[j]]:=List.take_succ_eq_append_getElem e
   have hlt:(d.take j).length=j:=by rw [List.length_take]; omega
   have hgo:∀ v,v=accN k (d.take (j+1))→k' (((k:Int),v,(),(d.length:Int),((j+1:Nat):Int),()),((),false,()),(B8 (l.drop k),false,true),(B8 d,true,f'),()):=fun v hv=>by
    rw [hv]
    exact hk' _ ⟨j+1,e,rfl⟩ (by show d.length - ((j+1:Nat):Int).toNat < d.length - ((j:Nat):Int).toNat; omega)
   by_cases j0:j=0
   ·rw [if_pos (by simp [j0])]
    by_cases k4:k=4
    ·rw [if_pos (by simp [k4])]
     refine hgo _ ?_
     subst j0 k4
     rw [ht,List.take_zero,List.nil_append]
     exact acc_first4 _
    ·rw [if_neg (by simp; omega)]
     simp only [lt]
     refine hgo _ ?_
     rw [or_byte _ _ (d[j]).toNat_lt,ht]
     exact acc_step hk (by omega) (fun q=>absurd q k4)
   ·rw [if_neg (by simp; omega)]
    simp only [lt]
    refine hgo _ ?_
    rw [or_byte _ _ (d[j]).toNat_lt,ht]
    exact acc_step hk (by omega) (fun q q2=>by rw [q2] at hlt; simp at hlt; omega)
  ·have:j=d.length:=by omega
   subst this
   rw [if_neg (dneg (by omega))]
   rw [List.take_length]
   exact h
 ·refine lp_stopN fun k'=>?_
  unfold Lq1l_0
  dsimp only
  rw [if_neg (by simp)]
  exact h' hb
theorem tTake1 (n:Nat) (bad:Bool) (l:List UInt8) (hl:l.length≤100000000) {K:Bool→List V→Bool→Bool→List V→Bool→Bool→Prop}
  (h:bad=false→n≤l.length→∀ f',K false (B8 (l.take n)) true f' (B8 (l.drop n)) false true) (h':(bad=true∨l.length < n)→K true [] true true [] true true):Xq0j (n:Int) (B8 l) bad K:=by
 unfold Xq0j Yq0j
 cases bad
 ·rw [if_neg (by simp),if_neg (dneg (by omega)),B8_len]
  by_cases e:l.length < n
  ·rw [if_pos (decide_eq_true (by omega))]; exact h' (.inr e)
  ·rw [if_neg (dneg (by omega)),if_pos (by omega),if_pos (by omega),Int.toNat_natCast,Int.toNat_natCast,B8_cut,B8_cut,List.drop_zero,Nat.sub_zero]
   refine tClone _ (by rw [List.length_take]; omega) fun f'=>?_
   have e9:List.take (l.length - n) (l.drop n)=l.drop n:=List.take_of_length_le (by rw [List.length_drop]; omega)
   rw [if_pos (by omega),if_pos (by omega),e9]
   exact h rfl (by omega) f'
 ·rw [if_pos rfl]; exact h' (.inl rfl)
theorem tNum1 (k:Nat) (hk:k=1∨k=4∨k=8) (bad:Bool) (l:List UInt8) (hl:l.length≤100000000) {K:Int→Bool→List V→Bool→Bool→Prop}
  (h:bad=false→k≤l.length→K (numB (l.take k)) false (B8 (l.drop k)) false true) (h':(bad=true∨l.length < k)→K 0 true [] true true):Xq0o (k:Int) (B8 l) bad K:=by
 unfold Xq0o Yq0o
 refine tMay k hk 0 (fun _=>⟨by decide,by decide⟩) ?_
 have hf:fits k 0=true:=by rcases hk with rfl | rfl | rfl <;> decide
 rw [hf,if_neg (by simp)]
 refine tTake1 k bad l hl (fun hb hn f'=>?_) fun hb=>?_
 ·have hd:(l.take k).length=k:=by rw [List.length_take]; omega
  have h:=h hb hn
  rw [← acc_num hk hd] at h
  generalize l.take k=d at *
  rw [B8_len]
  refine lp_ind (fun x=>d.length - x.1.2.2.2.2.1.toNat) (fun x=>∃ j:Nat,j≤d.length∧x=(((k:Int),accN k (d.take j),(),(d.length:Int),(j:Int),()),((),false,()),(B8 (l.drop k),false,true),(B8 d,true,f'),())) ?_ ⟨0,by omega,by rw [List.take_zero,acc_nil]; rfl⟩
  rintro x ⟨j,hj,rfl⟩ k' hk'
  unfold Lq0o_0
  dsimp only
  rw [B8_len,Int.toNat_natCast]
  by_cases e:j < d.length
  ·have e1:w64 ((j:Int)+1)=((j+1:Nat):Int):=by rw [w64_in (by omega) (by omega)]; omega
   rw [if_pos (decide_eq_true (by omega)),if_pos (by omega),e1]
   refine asB8 e ?_
   have ht:d.take (j+1)=d.take j++[d[j]]:=List.take_succ_eq_append_getElem e
   have hlt:(d.take j).length=j:=by rw [List.length_take]; omega
   have hgo:∀ v,v=accN k (d.take (j+1))→k' (((k:Int),v,(),(d.length:Int),((j+1:Nat):Int),()),((),false,()),(B8 (l.drop k),false,true),(B8 d,true,f'),()):=fun v hv=>by
    rw [hv]
    exact hk' _ ⟨j+1,e,rfl⟩ (by show d.length - ((j+1:Nat):Int).toNat < d.length - ((j:Nat):Int).toNat; omega)
   by_cases j0:j=0
   ·rw [if_pos (by simp [j0])]
    by_cases k4:k=4
    ·rw [if_pos (by simp [k4])]
     refine hgo _ ?_
     subst j0 k4
     rw [ht,List.take_zero,List.nil_append]
     exact acc_first4 _
    ·rw [if_neg (by simp; omega)]
     simp only [lt]
     refine hgo _ ?_
     rw [or_byte _ _ (d[j]).toNat_lt,ht]
     exact acc_step hk (by omega) (fun q=>absurd q k4)
   ·rw [if_neg (by simp; omega)]
    simp only [lt]
    refine hgo _ ?_
    rw [or_byte _ _ (d[j]).toNat_lt,ht]
    exact acc_step hk (by omega) (fun q q2=>by rw [q2] at hlt; simp at hlt; omega)
  ·have:j=d.length:=by omega
   subst this
   rw [if_neg (dneg (by omega))]
   rw [List.take_length]
   exact h
 ·refine lp_stopN fun k'=>?_
  unfold Lq0o_0
  dsimp only
  rw [if_neg (by simp)]
  exact h' hb
end Go.Proofs.YtbnpclndiichcaaGreatDoor
end
section
set_option linter.unusedVariables false
set_option linter.unusedSimpArgs false
namespace Go.Proofs.YtbnpclndiichcaaGreatDoor
open Go Go.Proofs.YtbnpclndiichcaaGreatDoor.Eng Go.Proofs.YtbnpclndiichcaaGreatDoor.Pl
set_option maxRecDepth 100000
set_option maxHeartbeats 4000000
def NI (ns:List Int):List V:=ns.map fun n=>.c (.int .i64 n)
theorem NI_len (ns:List Int):(NI ns).length=ns.length:=by simp [NI]
theorem asNI {ns:List Int} {i:Nat} (h:i < ns.length) {F:Prop} {K:Int→Prop} (hk:K ns[i]):Eng.asInt .i64 (getC (NI ns) i 0) F K:=by
 have:getC (NI ns) i 0=some (.c (.int .i64 ns[i])):=by simp [getC,NI,V.cells,h]
 rw [this]; simpa [Eng.asInt] using hk
theorem tPool (l:List (List UInt8)) (hl:l.length≤1000) (hs:∀ s∈l,s.length≤10000) {K:ByteArray→Bool→List V→Bool→Bool→Prop}
  (h:∀ o z,(l.all abbrL && decide (poolN [] l≤256))=true→K (S (poolL l).1) true (NI ((poolL l).2.map fun n:Nat=>(n:Int))) o z)
  (h':(l.all abbrL && decide (poolN [] l≤256))=false→∀ p at' o z,K p false at' o z):Xq3p (NV l) K:=by
 unfold Xq3p Yq3p
 rw [NV_len]
 refine lp_ind (fun x=>l.length - x.1.2.2.2.2.2.2.1.toNat) (fun x=>∃ (j:Nat) (p:List UInt8) (hd:List (List UInt8×Nat)) (at':List Nat),j≤l.length∧x=((S p,(),false,(),NV l,(l.length:Int),(j:Int),()),hadM (hd.map fun x=>(x.1,(x.2:Int))),NI (at'.map fun n:Nat=>(n:Int)),()) ∧
  (l.take j).all abbrL=true∧p.length+poolN (hd.map (·.1)) (l.drop j)=poolN [] l∧at'.length=j∧poolL l=((poolG p hd (l.drop j)).1,at'++(poolG p hd (l.drop j)).2)) ?_ ⟨0,[],[],[],by omega,rfl,rfl,by simp,rfl,rfl⟩
 rintro x ⟨j,p,hd,at',hj,rfl,hall,hp,hat,hpl⟩ k hk
 have hle:=poolN_le l [] hs
 unfold Lq3p_0
 simp only [decide_eq_true_eq,NV_len]
 by_cases e:j=l.length
 ·rw [if_neg (by omega)]
  rw [e,List.take_length] at hall
  rw [e,List.drop_length] at hp
  have hp':p.length=poolN [] l:=by simpa [poolN] using hp
  by_cases h2:((S p).size:Int) > 256
  ·rw [if_pos h2]
   rw [S_size] at h2
   exact h' (by rw [hall]; simp; omega) _ _ _ _
  ·rw [if_neg h2]
   rw [S_size] at h2
   rw [e,List.drop_length] at hpl
   have hq:=h
   rw [hpl] at hq
   simp only [poolG,List.append_nil] at hq
   exact hq _ _ (by rw [hall]; simp; omega)
 ·have hj':j < l.length:=by omega
  rw [Int.toNat_natCast,if_pos (by omega),if_pos (by omega)]
  refine asN hj' ?_
  refine sabbr _ ?_
  have hd':l.drop j=l[j] :: l.drop (j+1):=List.drop_eq_getElem_cons hj'
  have ht:l.take (j+1)=l.take j++[l[j]]:=List.take_succ_eq_append_getElem hj'
  have hsl:=hs l[j] (List.getElem_mem hj')
  have hmem:=List.getElem_mem hj'
  rw [hd'] at hp hpl
  generalize l[j]=s at *
  cases ha:abbrL s
  ·simp only [Bool.not_false,if_true]
   refine h' ?_ _ _ _ _
   have:l.all abbrL=false:=by
    rw [Bool.eq_false_iff]; intro h; rw [List.all_eq_true.1 h s hmem] at ha; cases ha
   rw [this]; rfl
  ·simp only [Bool.not_true,Bool.false_eq_true,if_false]
   rw [get_had,List.find?_map]
   have hall':(l.take (j+1)).all abbrL=true:=by rw [ht,List.all_append,hall]; simp [ha]
   have e1:w64 ((j:Int)+1)=((j+1:Nat):Int):=by rw [w64_in (by omega) (by omega)]; omega
   have step:∀ (p':List UInt8) (hd2:List (List UInt8×Nat)) (v:Nat),p'.length+poolN (hd2.map (·.1)) (l.drop (j+1))=poolN [] l→poolL l=((poolG p' hd2 (l.drop (j+1))).1,at'++(v :: (poolG p' hd2 (l.drop (j+1))).2))→k ((S p',(),false,(),NV l,(l.length:Int),((j+1:Nat):Int),()),hadM (hd2.map fun x=>(x.1,(x.2:Int))),NI (at'.map fun n:Nat=>(n:Int))++[.c (.int .i64 (v:Int))],()):=fun p' hd2 v hq hq2=>by
    refine hk _ ⟨j+1,p',hd2,at'++[v],by omega,by simp [NI],hall',hq,by simp [hat],by rw [hq2]; simp⟩ ?_
    show l.length - ((j+1:Nat):Int).toNat < l.length - ((j:Nat):Int).toNat
    omega
   rw [poolN] at hp
   rw [poolG] at hpl
   have hfe:(List.find? ((fun x:List UInt8×Int=>x.1 == s)∘fun x:List UInt8×Nat=>(x.1,(x.2:Int))) hd)=hd.find? (fun x=>x.1 == s):=rfl
   rw [hfe]
   cases hf:hd.find? (fun x=>x.1 == s) with
   | none =>
    have hc:(hd.map (·.1)).contains s=false:=by
     rw [Bool.eq_false_iff]
     intro hc
     rw [List.contains_iff_mem,List.mem_map] at hc
     obtain ⟨y,hy,hys⟩:=hc
     have:=List.find?_eq_none.1 hf y hy
     simp [hys] at this
    rw [hc,if_neg (by simp)] at hp
    rw [hf] at hpl
    simp only [Option.map_none,Eng.asMpI,Bool.not_false,if_true,Option.isSome_some]
    have hps:p.length≤100000000:=by omega
    rw [if_neg (by rw [S_size]; omega)]
    have es:S s++ByteArray.mk #[(0:UInt8)]=S (s++[0]):=S_append s [0]
    rw [es,S_append,S_size,S_size,if_neg (by simp; omega)]
    simp only [lt]
    rw [if_pos (room8 _ (by rw [NI_len]; simp; omega)),put_had s _ _ (by rw [List.find?_map,hfe,hf]; rfl),e1]
    have hmap:(hd.map fun x:List UInt8×Nat=>(x.1,(x.2:Int)))++[(s,(p.length:Int))]=(hd++[(s,p.length)]).map fun x=>(x.1,(x.2:Int)):=by simp
    rw [hmap]
    refine step (p++(s++[0])) (hd++[(s,p.length)]) p.length ?_ hpl
    rw [← hp,poolN_congr (l.drop (j+1)) _ (s :: hd.map (·.1)) fun t=>by
     rw [Bool.eq_iff_iff,List.contains_iff_mem,List.contains_iff_mem,List.map_append,List.mem_append,List.mem_cons]
     simp only [List.map_cons,List.map_nil,List.mem_singleton]
     exact ⟨fun h=>h.symm,fun h=>h.symm⟩]
    simp only [List.length_append,List.length_singleton]
    omega
   | some y =>
    have hy:=List.find?_some hf
    have hc:(hd.map (·.1)).contains s=true:=by
     rw [List.contains_iff_mem,List.mem_map]
     exact ⟨y,List.mem_of_find?_eq_some hf,by simpa using hy⟩
    rw [hc,if_pos rfl] at hp
    rw [hf] at hpl
    simp only [Option.map_some,Eng.asMpI,if_true,Bool.not_true,Bool.false_eq_true,if_false]
    rw [if_pos (room8 _ (by rw [NI_len]; simp; omega)),e1]
    exact step p hd _ hp hpl
end Go.Proofs.YtbnpclndiichcaaGreatDoor
end
section
set_option linter.unusedVariables false
set_option linter.unusedSimpArgs false
namespace Go.Proofs.YtbnpclndiichcaaGreatDoor
open Go Go.Proofs.YtbnpclndiichcaaGreatDoor.Eng Go.Proofs.YtbnpclndiichcaaGreatDoor.Pl
set_option maxRecDepth 100000
set_option maxHeartbeats 4000000
theorem tpoolZ (z:Zn) (h:ZI z) {K:ByteArray→Bool→List V→Bool→Bool→Prop}
  (hk:∀ o y,((z.ty.map (·.2.2)).all abbrL && decide (poolN [] (z.ty.map (·.2.2))≤256))=true→K (S (poolL (z.ty.map (·.2.2))).1) true (NI ((poolL (z.ty.map (·.2.2))).2.map fun n:Nat=>(n:Int))) o y)
  (hk':((z.ty.map (·.2.2)).all abbrL && decide (poolN [] (z.ty.map (·.2.2))≤256))=false→∀ p at' o y,K p false at' o y):Xq37 (tupZ z) K:=by
 unfold Xq37 Yq37
 simp only [tupZ_eq,TV_len]
 refine lp_at (fun j=>((ByteArray.mk #[],(),false,(),TV z.ty,(z.ty.length:Int),(j:Int),()),NV ((z.ty.map (·.2.2)).take j),())) z.ty.length rfl fun n hn k hkk=>?_
 unfold Lq37_0
 simp only [decide_eq_true_eq,TV_len]
 by_cases e:n=z.ty.length
 ·rw [if_neg (by omega),List.take_of_length_le (by simp; omega)]
  refine tPool _ (by have:=h.ty; simp; omega) (fun s hs=>?_) hk hk'
  obtain ⟨t,ht,rfl⟩:=List.mem_map.1 hs
  have:=h.nm t ht; omega
 ·have hn':n < z.ty.length:=by omega
  have hk':=hkk hn'
  have e1:w64 ((n:Int)+1)=((n+1:Nat):Int):=by have:=h.ty; rw [w64_in (by omega) (by omega)]; omega
  rw [Int.toNat_natCast,if_pos (by omega),if_pos (by omega)]
  refine asT1 hn' (asT2 hn' (asT3 hn' ?_))
  rw [if_pos (room16 _ (by rw [NV_len]; have:=h.ty; simp; omega)),e1]
  refine (congrArg k ?_).mp hk'
  have:NV ((z.ty.map (·.2.2)).take (n+1))=NV ((z.ty.map (·.2.2)).take n)++[.c (.string (S (z.ty[n]).2.2))]:=by
   rw [List.take_succ_eq_append_getElem (by simpa using hn')]
   simp [NV]
  rw [this]
end Go.Proofs.YtbnpclndiichcaaGreatDoor
end
section
set_option linter.unusedVariables false
set_option linter.unusedSimpArgs false
namespace Go.Proofs.YtbnpclndiichcaaGreatDoor
open Go Go.Proofs.YtbnpclndiichcaaGreatDoor.Eng Go.Proofs.YtbnpclndiichcaaGreatDoor.Pl
set_option maxRecDepth 100000
set_option maxHeartbeats 4000000
theorem tMark (b:Bool) {K:Int→Prop} (h:K (if b=true then 1 else 0)):Xq35 b K:=by
 unfold Xq35 Yq35
 cases b
 ·rw [if_neg (by simp)] at h ⊢; exact h
 ·rw [if_pos rfl] at h ⊢; exact h
theorem bytesV_S (l:List UInt8):Eng.bytesV (S l)=B8 l:=by simp [Eng.bytesV,B8]
theorem tEncode (z:Zn) (hz:ZI z) (k:Nat) (hk:k=4∨k=8) {K:Bool→List V→Bool→Bool→Prop}
  (h:∀ o f,K (blockR z k).2 (B8 (blockR z k).1) o f):Xq2l (tupZ z) (k:Int) K:=by
 unfold Xq2l Yq2l
 have hk3:k=1∨k=4∨k=8:=.inr hk
 have hty:=hz.ty
 have htr:=hz.tr
 have hlp:=hz.lp
 unfold blockR at h
 refine scount z hz fun r=>?_
 cases hc:countOk z
 ·rw [if_pos (by rfl)]
  rw [hc,if_neg (by simp)] at h
  exact h true true
 rw [if_neg (by simp)]
 rw [hc] at h
 have hnm:((z.ty.map (·.2.2)).all abbrL && decide (poolN [] (z.ty.map (·.2.2))≤256))=true:=by
  unfold countOk at hc
  simp only [Bool.and_eq_true] at hc ⊢
  exact hc.1.1.1.1.1
 have pbd:=poolG_bd (namesZ z) [] [] 100 (fun s hs=>by
  obtain ⟨t,ht,rfl⟩:=List.mem_map.1 hs
  exact hz.nm t ht) (by simp)
 have plen:(poolL (namesZ z)).2.length=z.ty.length:=by unfold poolL; rw [poolG_len]; simp [namesZ]
 have hnl:(namesZ z).length=z.ty.length:=by simp [namesZ]
 have pl1:(poolL (namesZ z)).1.length≤10100:=by
  have:=pbd.1
  rw [hnl] at this
  unfold poolL
  simp at this
  omega
 suffices main:∀ o y,lp (Lq2l_0 Xq0q Xq35 K) (((k:Int),(),(),false,S (poolL (namesZ z)).1,(),(),(tupZ z).2.1,(((tupZ z).2.1.length:Nat):Int),0,()),tupZ z,((),false,()),(NI ((poolL (namesZ z)).2.map fun n:Nat=>(n:Int)),o,y),([],true,false),()) by
  by_cases k4:k=4
  ·rw [if_neg (by simp [k4])]
   refine tpoolZ z hz (fun o y _=>main o y) fun hn=>?_
   rw [hnm] at hn; cases hn
  ·have k8:k=8:=by omega
   rw [if_pos (by simp [k8]),if_neg (by simp [k8])]
   refine tpoolZ z hz (fun o y _=>main o y) fun hn=>?_
   rw [hnm] at hn; cases hn
 intro o y
 generalize hP:(poolL (namesZ z)).1=P at *
 generalize hA:(poolL (namesZ z)).2=A at *
 rw [show (tupZ z).2.1=RV z.tr from rfl,RV_len]
 refine lp_ind (fun x=>z.tr.length - x.1.2.2.2.2.2.2.2.2.2.1.toNat) (fun x=>∃ (j:Nat) (bad:Bool) (l:List UInt8),j≤z.tr.length∧WI bad l (secF k (z.tr.take j)) (secW k (z.tr.take j)) (8 * j) ∧
  x=(((k:Int),(),(),false,S P,(),(),RV z.tr,(z.tr.length:Int),(j:Int),()),tupZ z,((),bad,()),(NI (A.map fun n:Nat=>(n:Int)),o,y),(B8 l,true,false),())) ?_ ⟨0,false,[],by omega,⟨rfl,fun _=>rfl,by simp⟩,rfl⟩
 rintro x ⟨j,bad,l,hj,hw,rfl⟩ k0 hk0
 unfold Lq2l_0
 dsimp only
 rw [RV_len,Int.toNat_natCast]
 have hwl:=hw.len
 by_cases e:j < z.tr.length
 ·have e1:w64 ((j:Int)+1)=((j+1:Nat):Int):=by rw [w64_in (by omega) (by omega)]; omega
  rw [if_pos (decide_eq_true (by omega)),if_pos (by omega)]
  refine asR1 e (asR2 e ?_)
  refine tWrite _ k (fun _=>(hz.ti _ (List.getElem_mem e)).1) hk3 bad l (by omega) false ?_
  rw [e1]
  refine hk0 _ ⟨j+1,_,_,e,?_,rfl⟩ (by show z.tr.length - ((j+1:Nat):Int).toNat < z.tr.length - ((j:Nat):Int).toNat; omega)
  have:=hw.step (k:=k) (n:=(z.tr[j]).1) hk3
  unfold secF secW at this ⊢
  rw [take_allS _ _ _ e,take_map_flat _ _ _ e]
  exact ⟨this.bad,this.eq,by have:=this.len; omega⟩
 have:j=z.tr.length:=by omega
 subst this
 rw [if_neg (dneg (by omega))]
 rw [List.take_length] at hw
 clear hk0
 rw [show (tupZ z).2.1=RV z.tr from rfl,RV_len]
 refine lp_ind (fun x=>z.tr.length - x.1.2.2.2.2.2.2.2.2.2.1.toNat) (fun x=>∃ (j:Nat) (bad:Bool) (l:List UInt8),j≤z.tr.length∧WI bad l (secF k z.tr && kdF (z.tr.take j)) (secW k z.tr++kdW (z.tr.take j)) (8 * z.tr.length+8 * j) ∧
  x=(((k:Int),(),(),false,S P,(),(),RV z.tr,(z.tr.length:Int),(j:Int),()),tupZ z,((),bad,()),(NI (A.map fun n:Nat=>(n:Int)),o,y),(B8 l,true,false),())) ?_ ⟨0,bad,l,by omega,⟨by rw [hw.bad]; simp [kdF],fun q=>by rw [hw.eq (by simpa [kdF] using q)]; simp [kdW],by have:=hw.len; omega⟩,rfl⟩
 clear hw hwl
 rintro x ⟨j,bad,l,hj,hw,rfl⟩ k1 hk1
 unfold Lq2l_1
 dsimp only
 rw [RV_len,Int.toNat_natCast]
 have hwl:=hw.len
 by_cases e:j < z.tr.length
 ·have e1:w64 ((j:Int)+1)=((j+1:Nat):Int):=by rw [w64_in (by omega) (by omega)]; omega
  rw [if_pos (decide_eq_true (by omega)),if_pos (by omega)]
  refine asR1 e (asR2 e ?_)
  refine tWrite _ 1 (by omega) (.inl rfl) bad l (by omega) false ?_
  rw [e1]
  refine hk1 _ ⟨j+1,_,_,e,?_,rfl⟩ (by show z.tr.length - ((j+1:Nat):Int).toNat < z.tr.length - ((j:Nat):Int).toNat; omega)
  have:=hw.step (k:=1) (n:=(z.tr[j]).2) (.inl rfl)
  unfold kdF kdW at this ⊢
  rw [take_allS _ _ _ e,take_map_flat _ _ _ e,← Bool.and_assoc,← List.append_assoc]
  exact ⟨this.bad,this.eq,by have:=this.len; omega⟩
 have:j=z.tr.length:=by omega
 subst this
 rw [if_neg (dneg (by omega))]
 rw [List.take_length] at hw
 clear hk1
 have hz1:(z.ty.zip A).length=z.ty.length:=by rw [List.length_zip,plen]; omega
 rw [show (tupZ z).1=TV z.ty from rfl,TV_len]
 generalize hF0:(secF k z.tr && kdF z.tr)=F0 at *
 generalize hb0:secW k z.tr++kdW z.tr=b0 at *
 refine lp_ind (fun x=>z.ty.length - x.1.2.2.2.2.2.2.2.2.2.1.toNat) (fun x=>∃ (j:Nat) (bad:Bool) (l:List UInt8),j≤z.ty.length∧WI bad l (F0 && tyF ((z.ty.zip A).take j)) (b0++tyW ((z.ty.zip A).take j)) (16 * z.tr.length+24 * j) ∧
  x=(((k:Int),(),(),false,S P,(),(),TV z.ty,(z.ty.length:Int),(j:Int),()),tupZ z,((),bad,()),(NI (A.map fun n:Nat=>(n:Int)),o,y),(B8 l,true,false),())) ?_ ⟨0,bad,l,by omega,⟨by rw [hw.bad]; simp [tyF],fun q=>by rw [hw.eq (by simpa [tyF] using q)]; simp [tyW],by have:=hw.len; omega⟩,rfl⟩
 clear hw hwl
 rintro x ⟨j,bad,l,hj,hw,rfl⟩ k2 hk2
 unfold Lq2l_2
 dsimp only
 rw [TV_len,NI_len,List.length_map,plen,Int.toNat_natCast]
 have hwl:=hw.len
 by_cases e:j < z.ty.length
 ·have e1:w64 ((j:Int)+1)=((j+1:Nat):Int):=by rw [w64_in (by omega) (by omega)]; omega
  have hx:0≤(j:Int)∧(j:Int) < (z.ty.length:Int):=by omega
  rw [if_pos (decide_eq_true (by omega)),if_pos hx]
  refine asT1 e (asT2 e (asT3 e ?_))
  refine tWrite _ 4 (by omega) (.inr (.inl rfl)) bad l (by omega) false ?_
  have s1:=hw.step (k:=4) (n:=(z.ty[j]).1) (.inr (.inl rfl))
  have l1:=s1.len
  refine tMark _ ?_
  refine tWrite _ 1 (by omega) (.inl rfl) _ _ (by omega) false ?_
  have s2:=s1.step (k:=1) (n:=if (z.ty[j]).2.1=true then 1 else 0) (.inl rfl)
  have l2:=s2.len
  rw [if_pos hx]
  refine asNI (by rw [List.length_map,plen]; exact e) ?_
  rw [List.getElem_map]
  refine tWrite _ 1 (by omega) (.inl rfl) _ _ (by omega) false ?_
  have s3:=s2.step (k:=1) (n:=((A[j]'(by omega):Nat):Int)) (.inl rfl)
  rw [e1]
  refine hk2 _ ⟨j+1,_,_,e,?_,rfl⟩ (by show z.ty.length - ((j+1:Nat):Int).toNat < z.ty.length - ((j:Nat):Int).toNat; omega)
  have hg:(z.ty.zip A)[j]'(by omega)=(z.ty[j],A[j]'(by omega)):=List.getElem_zip
  unfold tyF tyW at s3 ⊢
  rw [take_allS _ _ _ (by omega),take_map_flat _ _ _ (by omega),hg]
  dsimp only
  simp only [← Bool.and_assoc,← List.append_assoc] at s3 ⊢
  exact ⟨s3.bad,s3.eq,by have:=s3.len; omega⟩
 have:j=z.ty.length:=by omega
 subst this
 rw [if_neg (dneg (by omega))]
 rw [← hz1,List.take_length,hz1] at hw
 clear hk2
 rw [bytesV_S,if_pos rfl,if_pos (room1 _ (by rw [B8_len,B8_len]; omega)),B8_app]
 rw [show (tupZ z).2.2.1=RV z.lp from rfl,RV_len]
 generalize hF1:(F0 && tyF (z.ty.zip A))=F1 at *
 generalize hb1:b0++tyW (z.ty.zip A)=b1 at *
 refine lp_ind (fun x=>z.lp.length - x.1.2.2.2.2.2.2.1.toNat) (fun x=>∃ (j:Nat) (bad:Bool) (l:List UInt8),j≤z.lp.length∧WI bad l (F1 && lpF k (z.lp.take j)) (b1++P++lpW k (z.lp.take j)) (70000+16 * j) ∧
  x=(((k:Int),(),false,(),RV z.lp,(z.lp.length:Int),(j:Int),()),((),bad,()),(B8 l,true,false),())) ?_ ⟨0,bad,l++P,by omega,⟨by rw [hw.bad]; simp [lpF],fun q=>by rw [hw.eq (by simpa [lpF] using q)]; simp [lpW],by have:=hw.len; rw [List.length_append]; omega⟩,rfl⟩
 clear hw hwl
 rintro x ⟨j,bad,l,hj,hw,rfl⟩ k3 hk3'
 unfold Lq2l_3
 dsimp only
 rw [RV_len,Int.toNat_natCast]
 have hwl:=hw.len
 by_cases e:j < z.lp.length
 ·have e1:w64 ((j:Int)+1)=((j+1:Nat):Int):=by rw [w64_in (by omega) (by omega)]; omega
  rw [if_pos (decide_eq_true (by omega)),if_pos (by omega)]
  refine asR1 e (asR2 e ?_)
  refine tWrite _ k (fun _=>(hz.ri _ (List.getElem_mem e)).1) hk3 bad l (by omega) false ?_
  have s1:=hw.step (k:=k) (n:=(z.lp[j]).1) hk3
  have l1:=s1.len
  refine tWrite _ 4 (by omega) (.inr (.inl rfl)) _ _ (by omega) false ?_
  have s2:=s1.step (k:=4) (n:=(z.lp[j]).2) (.inr (.inl rfl))
  rw [e1]
  refine hk3' _ ⟨j+1,_,_,e,?_,rfl⟩ (by show z.lp.length - ((j+1:Nat):Int).toNat < z.lp.length - ((j:Nat):Int).toNat; omega)
  unfold lpF lpW at s2 ⊢
  rw [take_allS _ _ _ e,take_map_flat _ _ _ e]
  simp only [← Bool.and_assoc,← List.append_assoc] at s2 ⊢
  exact ⟨s2.bad,s2.eq,by have:=s2.len; omega⟩
 have:j=z.lp.length:=by omega
 subst this
 rw [if_neg (dneg (by omega))]
 rw [List.take_length] at hw
 have hB:blockF z k=(F1 && lpF k z.lp):=by unfold blockF; rw [hA,hF0,hF1]
 have hBB:blockB z k=b1++P++lpW k z.lp:=by unfold blockB; rw [hA,hP,hb0,hb1]
 rw [hB,hBB] at h
 cases hF:(F1 && lpF k z.lp)
 ·rw [hF] at hw h
  rw [if_neg (by simp)] at h
  rw [if_pos (show bad=true by rw [hw.bad]; rfl)]
  exact h _ _
 ·rw [hF] at hw h
  rw [if_pos ⟨rfl,rfl⟩] at h
  rw [if_neg (show ¬ bad=true by rw [hw.bad]; simp),hw.eq rfl]
  exact h _ _
end Go.Proofs.YtbnpclndiichcaaGreatDoor
end
section
set_option linter.unusedVariables false
set_option linter.unusedSimpArgs false
namespace Go.Proofs.YtbnpclndiichcaaGreatDoor
open Go Go.Proofs.YtbnpclndiichcaaGreatDoor.Eng Go.Proofs.YtbnpclndiichcaaGreatDoor.Pl
set_option maxRecDepth 100000
set_option maxHeartbeats 4000000
theorem tHeadRight (h:Hd) {K:Bool→Prop} (hk:K (headOk h)):Xq36 (tupHd h) K:=by
 obtain ⟨v,ut,sd,l,t,y,c⟩:=h
 unfold Xq36 Yq36 tupHd
 unfold headOk at hk
 dsimp only at hk ⊢
 refine hwithin _ _ _ ?_
 cases h1:nin l 0 201
 ·have hk':K false:=by simpa [h1] using hk
  rw [if_neg (by simp)]
  repeat' split
  all_goals exact hk'
 rw [if_pos rfl]
 refine hwithin _ _ _ ?_
 cases h2:nin t 0 2000
 ·have hk':K false:=by simpa [h2] using hk
  rw [if_neg (by simp)]
  repeat' split
  all_goals exact hk'
 rw [if_pos rfl]
 refine hwithin _ _ _ ?_
 cases h3:nin y 1 64
 ·have hk':K false:=by simpa [h3] using hk
  rw [if_neg (by simp)]
  repeat' split
  all_goals exact hk'
 rw [if_pos rfl]
 refine hwithin _ _ _ ?_
 rw [h1,h2,h3] at hk
 cases e1:(ut == 0) <;> cases e2:(ut == y) <;> cases e3:(sd == 0) <;> cases e4:(sd == y) <;> cases h4:nin c 1 256 <;>
  simp only [e1,e2,e3,e4,h4,Bool.true_and,Bool.and_true,Bool.false_and,Bool.and_false,Bool.or_true,Bool.true_or,Bool.or_false,Bool.false_or,if_true,Bool.false_eq_true,if_false] at hk ⊢ <;>
  first | exact hk | (refine hwithin _ _ _ ?_; exact hk)
theorem tSize (h:Hd) (k:Nat) (hk:k=4∨k=8) {K:Int→Prop} (hK:K (sizeR h k)):Xq3v (tupHd h) (k:Int) K:=by
 unfold Xq3v Yq3v
 refine tHeadRight h ?_
 unfold sizeR at hK
 cases q:headOk h
 ·rw [if_pos (by simp),if_pos (by simp)]
  rw [q,if_neg (by simp)] at hK; exact hK
 ·rw [q,if_pos ⟨rfl,hk⟩] at hK
  rw [if_neg (by simp)]
  have o:=head_ok q
  obtain ⟨v,ut,sd,l,t,y,c⟩:=h
  obtain ⟨o1,o2,o3,o4,o5,o6,o7⟩:=o
  unfold tupHd
  dsimp only at *
  simp only [lt]
  have e:w64 (w64 (w64 (w64 (w64 (t * w64 ((k:Int)+1))+w64 (y * 6))+c)+w64 (l * w64 ((k:Int)+4)))+sd)+ut=t * (k+1)+y * 6+c+l * (k+4)+sd+ut:=by
   rcases hk with rfl | rfl
   ·rw [show w64 (((4:Nat):Int)+1)=5 from rfl,show w64 (((4:Nat):Int)+4)=8 from rfl,w64_in (n:=t * 5) (by omega) (by omega),w64_in (n:=y * 6) (by omega) (by omega),w64_in (n:=l * 8) (by omega) (by omega),w64_in (n:=t * 5+y * 6) (by omega) (by omega),w64_in (n:=t * 5+y * 6+c) (by omega) (by omega),w64_in (n:=t * 5+y * 6+c+l * 8) (by omega) (by omega),w64_in (n:=t * 5+y * 6+c+l * 8+sd) (by omega) (by omega)]
    simp
   ·rw [show w64 (((8:Nat):Int)+1)=9 from rfl,show w64 (((8:Nat):Int)+4)=12 from rfl,w64_in (n:=t * 9) (by omega) (by omega),w64_in (n:=y * 6) (by omega) (by omega),w64_in (n:=l * 12) (by omega) (by omega),w64_in (n:=t * 9+y * 6) (by omega) (by omega),w64_in (n:=t * 9+y * 6+c) (by omega) (by omega),w64_in (n:=t * 9+y * 6+c+l * 12) (by omega) (by omega),w64_in (n:=t * 9+y * 6+c+l * 12+sd) (by omega) (by omega)]
    simp
  have e':w64 (w64 (w64 (w64 (w64 (w64 (t * w64 ((k:Int)+1))+w64 (y * 6))+c)+w64 (l * w64 ((k:Int)+4)))+sd)+ut)=t * (k+1)+y * 6+c+l * (k+4)+sd+ut:=by
   rw [e]
   rcases hk with rfl | rfl
   ·rw [w64_in (by simp; omega) (by simp; omega)]
   ·rw [w64_in (by simp; omega) (by simp; omega)]
  rw [e']
  by_cases k4:k=4
  ·rw [if_neg (by simp [k4])]; exact hK
  ·rw [if_pos (by simp; omega),if_neg (by simp; omega)]; exact hK
theorem tAt (p:List UInt8) (hp:p.length≤1000000) (a:Int) {K:ByteArray→Bool→Prop} (h:K (S (abbrAt p a).1) (abbrAt p a).2):Xq3z (S p) a K:=by
 unfold Xq3z Yq3z
 unfold abbrAt at h
 rw [S_size]
 by_cases h0:a < 0
 ·rw [if_pos (decide_eq_true h0)]
  rw [if_neg (by omega)] at h; exact h
 rw [if_neg (dneg h0)]
 by_cases h1:a≥p.length
 ·rw [if_pos (decide_eq_true h1)]
  rw [if_neg (by omega)] at h; exact h
 rw [if_neg (dneg h1),if_pos (by omega),if_pos (by omega),Int.toNat_natCast]
 have e:ByteArray.extract (S p) a.toNat p.length=S (p.drop a.toNat):=by
  rw [S_extract,List.take_of_length_le (by rw [List.length_drop]; omega)]
 rw [e]
 refine sCut (p.drop a.toNat) 0 (by rw [List.length_drop]; omega) ?_
 unfold splitL
 by_cases hz:nl (· == 0) (p.drop a.toNat) < (p.drop a.toNat).length
 ·rw [if_pos hz,if_neg (by simp),take_nl]
  refine sabbr _ ?_
  unfold nameAt at h
  cases ha:abbrL ((p.drop a.toNat).takeWhile (· != 0))
  ·rw [if_pos (by rfl)]
   rw [if_neg (by rw [ha]; simp)] at h; exact h
  ·rw [if_neg (by simp)]
   rw [if_pos ⟨by omega,by omega,(zero_nl _).2 hz,ha⟩] at h; exact h
 ·rw [if_neg hz,if_pos (by rfl)]
  rw [if_neg (fun q=>hz ((zero_nl _).1 q.2.2.1))] at h; exact h
theorem tCont (l:List UInt8) (hl:l.length≤1000000) {K:Bool→Prop} (h:K (!l.all fun c=>decide (c.toNat≤1))):Xq01 (B8 l) K:=by
 unfold Xq01 Yq01 Xq08 Yq08
 rw [B8_len]
 refine lp_ind (fun x=>l.length - x.1.2.2.2.2.1.toNat) (fun x=>∃ j:Nat,j≤l.length∧(l.take j).all (fun c=>decide (c.toNat≤1))=true∧x=((B8 l,((),()),(0:Int),(l.length:Int),(j:Int),()),())) ?_ ⟨0,by omega,by simp,rfl⟩
 rintro x ⟨j,hj,hall,rfl⟩ k hk
 unfold Lq08_0
 dsimp only
 rw [B8_len,Int.toNat_natCast]
 by_cases e:j < l.length
 ·have e1:w64 ((j:Int)+1)=((j+1:Nat):Int):=by rw [w64_in (by omega) (by omega)]; omega
  rw [if_pos (decide_eq_true (by omega)),if_pos (by omega),e1]
  refine asB8 e ?_
  unfold Xq2d Yq2d
  dsimp only
  by_cases hb:(l[j]).toNat≤1
  ·rw [if_neg (dneg (by omega))]
   refine hk _ ⟨j+1,e,?_,rfl⟩ (by show l.length - ((j+1:Nat):Int).toNat < l.length - ((j:Nat):Int).toNat; omega)
   rw [List.take_succ_eq_append_getElem e,List.all_append,hall]
   simpa using hb
  ·rw [if_pos (decide_eq_true (by omega))]
   have:l.all (fun c=>decide (c.toNat≤1))=false:=by
    rw [Bool.eq_false_iff]; intro q
    exact hb (of_decide_eq_true (List.all_eq_true.1 q _ (List.getElem_mem e)))
   rw [this] at h
   rw [show decide ((j:Int)≥0)=true from decide_eq_true (by omega)]
   exact h
 ·have:j=l.length:=by omega
  subst this
  rw [if_neg (dneg (by omega))]
  rw [List.take_length] at hall
  rw [hall] at h
  exact h
theorem tMarked (sd ut:List UInt8) (hs:sd.length≤1000000) (hu:ut.length≤1000000) {K:Bool→Prop} (h:K (markOk sd ut)):Xq2p (B8 sd) (B8 ut) K:=by
 unfold Xq2p Yq2p
 rw [B8_len]
 have hg:∀ (l:List UInt8) (j:Nat) (e:j < l.length),l.getD j 0=l[j]:=fun l j e=>by rw [List.getD_eq_getElem?_getD,List.getElem?_eq_getElem e]; rfl
 unfold markOk at h
 refine lp_ind (fun x=>ut.length - x.1.2.2.2.2.2.2.1.toNat) (fun x=>∃ j:Nat,j≤ut.length∧(∀ i,i < j→(!(ut.getD i 0 == 1) || sd.getD i 0 == 1)=true)∧x=((B8 sd,B8 ut,false,((),()),B8 ut,(ut.length:Int),(j:Int),()),())) ?_ ⟨0,by omega,by omega,rfl⟩
 rintro x ⟨j,hj,hall,rfl⟩ k hk
 unfold Lq2p_0
 dsimp only
 rw [B8_len,B8_len,Int.toNat_natCast]
 by_cases e:j < ut.length
 ·have e1:w64 ((j:Int)+1)=((j+1:Nat):Int):=by rw [w64_in (by omega) (by omega)]; omega
  rw [if_pos (decide_eq_true (by omega)),if_pos (by omega),e1]
  refine asB8 e ?_
  have go:(!(ut.getD j 0 == 1) || sd.getD j 0 == 1)=true→k ((B8 sd,B8 ut,false,((),()),B8 ut,(ut.length:Int),((j+1:Nat):Int),()),()):=fun q =>
   hk _ ⟨j+1,e,fun i hi=>by
    rcases Nat.lt_or_ge i j with q1 | q1
    ·exact hall i q1
    ·have:i=j:=by omega
     subst this; exact q,rfl⟩ (by show ut.length - ((j+1:Nat):Int).toNat < ut.length - ((j:Nat):Int).toNat; omega)
  have no:(!(ut.getD j 0 == 1) || sd.getD j 0 == 1)=false→K false:=fun q=>by
   have:(List.range ut.length).all (fun i=>!(ut.getD i 0 == 1) || sd.getD i 0 == 1)=false:=by
    rw [Bool.eq_false_iff]; intro q2
    have:=List.all_eq_true.1 q2 j (List.mem_range.2 e)
    rw [q] at this; cases this
   rw [this,Bool.and_false] at h; exact h
  rw [hg ut j e] at go no
  have hu1:∀ c:UInt8,(c.toNat:Int)=1↔c=1:=fun c=>⟨fun q=>by
   apply UInt8.toNat_inj.1; show c.toNat=1; omega,fun q=>by rw [q]; rfl⟩
  by_cases c1:ut[j]=1
  ·rw [if_pos (by rw [beq_iff_eq]; exact (hu1 _).2 c1)]
   rw [c1] at go no
   by_cases es:j < sd.length
   ·rw [if_neg (dneg (by omega)),if_pos (by omega)]
    refine asB8 es ?_
    rw [hg sd j es] at go no
    by_cases c2:sd[j]=1
    ·rw [if_neg (by simp; exact (hu1 _).2 c2)]
     exact go (by rw [c2]; rfl)
    ·rw [if_pos (by simp; exact fun q=>c2 ((hu1 _).1 q))]
     refine no ?_
     have:(sd[j] == (1:UInt8))=false:=by rw [Bool.eq_false_iff]; intro q; exact c2 (eq_of_beq q)
     rw [this]; rfl
   ·rw [if_pos (decide_eq_true (by omega))]
    refine no ?_
    have:sd.getD j 0=0:=by rw [List.getD_eq_getElem?_getD,List.getElem?_eq_none (by omega)]; rfl
    rw [this]; rfl
  ·rw [if_neg (by rw [beq_iff_eq]; exact fun q=>c1 ((hu1 _).1 q))]
   refine go ?_
   have:(ut[j] == (1:UInt8))=false:=by rw [Bool.eq_false_iff]; intro q; exact c1 (eq_of_beq q)
   rw [this]; rfl
 ·have:j=ut.length:=by omega
  subst this
  rw [if_neg (dneg (by omega))]
  have hr:(List.range ut.length).all (fun i=>!(ut.getD i 0 == 1) || sd.getD i 0 == 1)=true:=List.all_eq_true.2 fun i hi=>hall i (List.mem_range.1 hi)
  rw [hr,Bool.and_true] at h
  refine tCont sd hs ?_
  cases h1:sd.all (fun c=>decide (c.toNat≤1))
  ·rw [h1] at h
   rw [if_neg (by simp)]; exact h
  ·rw [h1,Bool.true_and] at h
   rw [if_pos (by simp)]
   refine tCont ut hu ?_
   rw [Bool.not_not]; exact h
end Go.Proofs.YtbnpclndiichcaaGreatDoor
end
section
set_option linter.unusedVariables false
set_option linter.unusedSimpArgs false
namespace Go.Proofs.YtbnpclndiichcaaGreatDoor
open Go Go.Proofs.YtbnpclndiichcaaGreatDoor.Eng Go.Proofs.YtbnpclndiichcaaGreatDoor.Pl
set_option maxRecDepth 100000
set_option maxHeartbeats 4000000
theorem tNumS1 (k:Nat) (hk:k=1∨k=4∨k=8) (l:List UInt8) (hl:l.length≤100000000) (hn:k≤l.length) {K:Int→Bool→List V→Bool→Bool→Prop}
  (h:K (numB (l.take k)) false (B8 (l.drop k)) false true):Xq0o (k:Int) (B8 l) false K :=
 tNum1 k hk false l hl (fun _ _=>h) (fun q=>q.elim (fun q=>by cases q) (fun q=>by omega))
theorem tNumS (k:Nat) (hk:k=1∨k=4∨k=8) (l:List UInt8) (hl:l.length≤100000000) (hn:k≤l.length) (o f:Bool) {K:Int→Bool→List V→Bool→Bool→Prop}
  (h:K (numB (l.take k)) false (B8 (l.drop k)) false true):Xq1l (k:Int) false (B8 l) o f K :=
 tNum k hk false l hl o f (fun _ _=>h) (fun q=>q.elim (fun q=>by cases q) (fun q=>by omega))
theorem tTakeS (n:Nat) (l:List UInt8) (hl:l.length≤100000000) (hn:n≤l.length) (o f:Bool) {K:Bool→List V→Bool→Bool→List V→Bool→Bool→Prop}
  (h:∀ f',K false (B8 (l.take n)) true f' (B8 (l.drop n)) false true):Xq0v (n:Int) false (B8 l) o f K :=
 tTake n false l hl o f (fun _ _=>h) (fun q=>q.elim (fun q=>by cases q) (fun q=>by omega))
theorem tTypes (n:Nat) (l:List UInt8) (hn:n≤64) (h6:6 * n≤l.length) (hl:l.length≤1000000) (o f:Bool) {K:Bool→Bool→List V→Bool→Bool→List V→Bool→Bool→List V→Bool→Bool→Prop}
  (h:K ((tyD n l).all fun x=>decide (x.2.1 < 2)) false (TV ((tyD n l).map fun x=>(x.1,x.2.1 == 1,[]))) true false (NI ((tyD n l).map (·.2.2))) true false (B8 (l.drop (6 * n))) false true):Xq2g (n:Int) false (B8 l) o f K:=by
 unfold Xq2g Yq2g
 have hT:=tyD_len n l
 have hg:=tyD_get n l
 generalize tyD n l=T at *
 refine lp_ind (fun x=>n - x.1.2.2.2.2.2.1.toNat) (fun x=>∃ j:Nat,j≤n∧x=(((),(),(),(T.take j).all (fun x=>decide (x.2.1 < 2)),(n:Int),(j:Int),()),(B8 (l.drop (6 * j)),false,()),(B8 l,o,true),TV ((T.take j).map fun x=>(x.1,x.2.1 == 1,[])),NI ((T.take j).map (·.2.2)),())) ?_ ⟨0,by omega,rfl⟩
 rintro x ⟨j,hj,rfl⟩ k hk
 unfold Lq2g_0
 dsimp only
 by_cases e:j < n
 ·have e1:w64 ((j:Int)+1)=((j+1:Nat):Int):=by rw [w64_in (by omega) (by omega)]; omega
  have hjT:j < T.length:=by omega
  have hgj:=hg j hjT
  have ht:T.take (j+1)=T.take j++[T[j]]:=List.take_succ_eq_append_getElem hjT
  rw [if_pos (decide_eq_true (by omega))]
  refine tNumS1 4 (.inr (.inl rfl)) _ (by rw [List.length_drop]; omega) (by rw [List.length_drop]; omega) ?_
  rw [List.drop_drop]
  refine tNumS 1 (.inl rfl) _ (by rw [List.length_drop]; omega) (by rw [List.length_drop]; omega) false true ?_
  rw [List.drop_drop,show 6 * j+4+1=6 * j+5 from rfl]
  have lenT:(TV ((T.take j).map fun x=>((x.1,x.2.1 == 1,[]):Ty))).length=j:=by simp [TV]; omega
  have lenA:(NI ((T.take j).map (·.2.2))).length=j:=by simp [NI]; omega
  rw [if_pos (room32 _ (by rw [lenT]; simp; omega))]
  simp only [lt]
  refine tNumS 1 (.inl rfl) _ (by rw [List.length_drop]; omega) (by rw [List.length_drop]; omega) false true ?_
  rw [List.drop_drop,show 6 * j+5+1=6 * (j+1) by omega]
  rw [if_pos (room8 _ (by rw [lenA]; simp; omega)),e1]
  have go:∀ b,b=(T.take (j+1)).all (fun x=>decide (x.2.1 < 2))→k (((),(),(),b,(n:Int),((j+1:Nat):Int),()),(B8 (l.drop (6 * (j+1))),false,()),(B8 l,o,true),TV ((T.take j).map fun x=>(x.1,x.2.1 == 1,[]))++[V.agg [V.c (Value.int IntKind.i64 (numB ((l.drop (6 * j)).take 4))),V.c (Value.bool (numB ((l.drop (6 * j+4)).take 1) == 1)),V.c (Value.string (ByteArray.mk #[]))]],NI ((T.take j).map (·.2.2))++[V.c (Value.int IntKind.i64 (numB ((l.drop (6 * j+5)).take 1)))],()):=fun b hb=>by
   refine hk _ ⟨j+1,e,?_⟩ (by show n - ((j+1:Nat):Int).toNat < n - ((j:Nat):Int).toNat; omega)
   rw [ht,List.map_append,List.map_append,hgj,hb,ht,hgj]
   simp only [TV,NI,List.map_append,List.map_cons,List.map_nil]
   rfl
  have hall:(T.take (j+1)).all (fun x=>decide (x.2.1 < 2))=((T.take j).all (fun x=>decide (x.2.1 < 2)) && decide (numB ((l.drop (6 * j+4)).take 1) < 2)):=by
   rw [ht,List.all_append,hgj]; simp
  cases hc:(T.take j).all (fun x=>decide (x.2.1 < 2))
  ·rw [if_neg (by simp)]
   exact go _ (by rw [hall,hc]; rfl)
  ·rw [if_pos rfl]
   exact go _ (by rw [hall,hc]; rfl)
 ·have:j=n:=by omega
  subst this
  rw [if_neg (dneg (by omega))]
  rw [List.take_of_length_le (by omega)]
  exact h
end Go.Proofs.YtbnpclndiichcaaGreatDoor
end
section
set_option linter.unusedVariables false
set_option linter.unusedSimpArgs false
namespace Go.Proofs.YtbnpclndiichcaaGreatDoor
open Go Go.Proofs.YtbnpclndiichcaaGreatDoor.Eng Go.Proofs.YtbnpclndiichcaaGreatDoor.Pl
set_option maxRecDepth 100000
set_option maxHeartbeats 4000000
theorem RV_set0 (l:List Rec) (i:Nat) (h:i < l.length) (x:Int):List.set (RV l) i (Eng.setE (List.getD (RV l) i Eng.V.bad) 0 [V.c (.int .i64 x)])=RV (l.set i (x,(l[i]).2)):=by
 have:List.getD (RV l) i V.bad=eRec l[i]:=by simp [RV,List.getD,h]
 rw [this]
 show List.set (RV l) i (eRec (x,(l[i]).2))=_
 simp [RV,List.map_set]
theorem RV_set1 (l:List Rec) (i:Nat) (h:i < l.length) (x:Int):List.set (RV l) i (Eng.setE (List.getD (RV l) i Eng.V.bad) 1 [V.c (.int .i64 x)])=RV (l.set i ((l[i]).1,x)):=by
 have:List.getD (RV l) i V.bad=eRec l[i]:=by simp [RV,List.getD,h]
 rw [this]
 show List.set (RV l) i (eRec ((l[i]).1,x))=_
 simp [RV,List.map_set]
theorem TV_set2 (l:List Ty) (i:Nat) (h:i < l.length) (s:List UInt8):List.set (TV l) i (Eng.setE (List.getD (TV l) i Eng.V.bad) 2 [V.c (.string (S s))])=TV (l.set i ((l[i]).1,(l[i]).2.1,s)):=by
 have:List.getD (TV l) i V.bad=eTy l[i]:=by simp [TV,List.getD,h]
 rw [this]
 show List.set (TV l) i (eTy ((l[i]).1,(l[i]).2.1,s))=_
 simp [TV,List.map_set]
theorem RV_snoc (l:List Rec) (a c:Int):RV l++[V.agg [V.c (Value.int IntKind.i64 a),V.c (Value.int IntKind.i64 c)]]=RV (l++[(a,c)]):=by simp [RV,eRec]
structure BI (h:Hd) (b:List UInt8) (k:Nat):Prop where
 kk:k=4∨k=8
 ok:headOk h=true
 len:b.length=oUt h k+h.ut.toNat
 bd:b.length≤1000000
theorem tL11 {h:Hd} {b:List UInt8} {k:Nat} (B:BI h b k) (tr:List Rec) (ty:List Ty) (ok o f:Bool) {K:_→Bool→List V→Bool→Bool→List V→Bool→Bool→List V→Bool→Bool→Prop} (k1 k2 k3:_→Prop)
  (h1:(ok && markOk ((b.drop (oSd h k)).take h.sd.toNat) ((b.drop (oUt h k)).take h.ut.toNat))=true→K ((),(),(),ByteArray.mk #[],h.v,()) true (TV ty) true false (RV tr) true false (RV (lpD k h.lp.toNat (b.drop (oLp h k)))) true false)
  (h2:(ok && markOk ((b.drop (oSd h k)).take h.sd.toNat) ((b.drop (oUt h k)).take h.ut.toNat))=false→K ((),(),(),ByteArray.mk #[],0,()) false [] true true [] true true [] true true) :
  lp (Lq2n_11 Xq1l Xq0v Xq2p K k1 k2 k3) (((k:Int),(),(),false,(),(),ok,h.lp,(0:Int),()),tupHd h,([],[],[],ByteArray.mk #[],(0:Int),()),((),(),(),ByteArray.mk #[],h.v,()),((),false,()),RV tr,(TV ty,true,false),(B8 (b.drop (oLp h k)),o,f),[],()):=by
 have hk3:k=1∨k=4∨k=8:=.inr B.kk
 have o9:=head_ok B.ok
 have hb:=B.len
 have hbd:=B.bd
 have q4:oSd h k=oLp h k+(k+4) * h.lp.toNat:=rfl
 have q5:oUt h k=oSd h k+h.sd.toNat:=rfl
 have eL:h.lp=((h.lp.toNat:Nat):Int):=by have:=o9.lp; omega
 have eS:h.sd=((h.sd.toNat:Nat):Int):=by have:=o9.sd; have:=o9.ty; omega
 have eU:h.ut=((h.ut.toNat:Nat):Int):=by have:=o9.ut; have:=o9.ty; omega
 have hL:=lpD_len k h.lp.toNat (b.drop (oLp h k))
 have hg:=lpD_get k h.lp.toNat (b.drop (oLp h k))
 have hl200:=o9.lp
 generalize lpD k h.lp.toNat (b.drop (oLp h k))=L at *
 refine lp_ind (fun x=>h.lp.toNat - x.1.2.2.2.2.2.2.2.2.1.toNat) (fun x=>∃ (j:Nat) (o f:Bool),j≤h.lp.toNat∧x=(((k:Int),(),(),false,(),(),ok,h.lp,(j:Int),()),tupHd h,([],[],[],ByteArray.mk #[],(0:Int),()),((),(),(),ByteArray.mk #[],h.v,()),((),false,()),RV tr,(TV ty,true,false),(B8 (b.drop (oLp h k+(k+4) * j)),o,f),RV (L.take j),())) ?_ ⟨0,o,f,by omega,rfl⟩
 rintro x ⟨j,o,f,hj,rfl⟩ k' hk'
 unfold Lq2n_11
 dsimp only
 by_cases e:j < h.lp.toNat
 ·have e1:w64 ((j:Int)+1)=((j+1:Nat):Int):=by rw [w64_in (by omega) (by omega)]; omega
  have m1:(k+4) * (j+1)=(k+4) * j+(k+4):=Nat.mul_succ _ _
  have m2:(k+4) * (j+1)≤(k+4) * h.lp.toNat:=Nat.mul_le_mul_left _ e
  have hgj:=hg j (by omega)
  have ht:L.take (j+1)=L.take j++[L[j]'(by omega)]:=List.take_succ_eq_append_getElem (by omega)
  rw [if_pos (decide_eq_true (by omega))]
  refine tNumS k hk3 _ (by rw [List.length_drop]; omega) (by rw [List.length_drop]; omega) o f ?_
  rw [List.drop_drop]
  refine tNumS 4 (.inr (.inl rfl)) _ (by rw [List.length_drop]; omega) (by rw [List.length_drop]; omega) false true ?_
  rw [List.drop_drop,show oLp h k+(k+4) * j+k+4=oLp h k+(k+4) * (j+1) by omega]
  have lenL:(RV (L.take j)).length=j:=by rw [RV_len,List.length_take]; omega
  rw [if_pos (room16 _ (by rw [lenL]; simp; omega)),e1,RV_snoc]
  have eLj:(numB ((b.drop (oLp h k+(k+4) * j)).take k),numB ((b.drop (oLp h k+(k+4) * j+k)).take 4))=L[j]'(by omega):=by
   rw [hgj,List.drop_drop,List.drop_drop,Nat.add_assoc (oLp h k)]
  rw [eLj,← ht]
  refine hk' _ ⟨j+1,false,true,e,rfl⟩ (by show h.lp.toNat - ((j+1:Nat):Int).toNat < h.lp.toNat - ((j:Nat):Int).toNat; omega)
 ·have:j=h.lp.toNat:=by omega
  subst this
  rw [if_neg (dneg (by omega)),← q4]
  rw [List.take_of_length_le (by omega)]
  show Xq0v h.sd false (B8 (b.drop (oSd h k))) o f _
  rw [eS]
  refine tTakeS _ _ (by rw [List.length_drop]; omega) (by rw [List.length_drop]; omega) o f fun f1=>?_
  rw [List.drop_drop,← q5]
  show Xq0v h.ut false (B8 (b.drop (oUt h k))) false true _
  rw [eU]
  refine tTakeS _ _ (by rw [List.length_drop]; omega) (by rw [List.length_drop]; omega) false true fun f2=>?_
  refine tMarked _ _ (by rw [List.length_take,List.length_drop]; omega) (by rw [List.length_take,List.length_drop]; omega) ?_
  cases hm:markOk ((b.drop (oSd h k)).take h.sd.toNat) ((b.drop (oUt h k)).take h.ut.toNat)
  ·rw [if_pos (by rfl)]
   exact h2 (by rw [hm,Bool.and_false])
  ·rw [if_neg (by simp)]
   cases ok
   ·rw [if_pos (by rfl)]
    exact h2 rfl
   ·rw [if_neg (by simp)]
    exact h1 (by rw [hm]; rfl)
end Go.Proofs.YtbnpclndiichcaaGreatDoor
end
section
set_option linter.unusedVariables false
set_option linter.unusedSimpArgs false
namespace Go.Proofs.YtbnpclndiichcaaGreatDoor
open Go Go.Proofs.YtbnpclndiichcaaGreatDoor.Eng Go.Proofs.YtbnpclndiichcaaGreatDoor.Pl
set_option maxRecDepth 100000
set_option maxHeartbeats 4000000
theorem NI_get {ns:List Int} {i:Nat} (h:i < ns.length) {F:Prop} {K:Int→Prop} (hk:K ns[i]):Eng.asInt .i64 (getC (NI ns) i 0) F K:=asNI h hk
theorem tL10 {h:Hd} {b:List UInt8} {k:Nat} (B:BI h b k) (tr:List Rec) (o f:Bool) {K:_→Bool→List V→Bool→Bool→List V→Bool→Bool→List V→Bool→Bool→Prop} (k1 k2:_→Prop)
  (h1:blockK h b k=true→K ((),(),(),ByteArray.mk #[],h.v,()) true (TV ((tysD h b k).map fun x=>(x.1,x.2.1 == 1,(abbrAt (chD h b k) x.2.2).1))) true false (RV tr) true false (RV (lpD k h.lp.toNat (b.drop (oLp h k)))) true false)
  (h2:blockK h b k=false→K ((),(),(),ByteArray.mk #[],0,()) false [] true true [] true true [] true true) :
  lp (Lq2n_10 Xq3z Xq1l Xq0v Xq2p K k1 k2) (((k:Int),(),(),false,(),(),(),(),(tysD h b k).all (fun x=>decide (x.2.1 < 2)),S (chD h b k),h.ty,(0:Int),()),tupHd h,((),(),(),ByteArray.mk #[],(0:Int),()),((),(),(),ByteArray.mk #[],h.v,()),((),false,()),RV tr,(TV ((tysD h b k).map fun x=>(x.1,x.2.1 == 1,[])),true,false),(NI ((tysD h b k).map (·.2.2)),true,false),(B8 (b.drop (oLp h k)),o,f),()):=by
 have o9:=head_ok B.ok
 have hty:=o9.ty
 have eY:h.ty=((h.ty.toNat:Nat):Int):=by omega
 have hch:=o9.ch
 have hpl:(chD h b k).length≤1000000:=by unfold chD; rw [List.length_take]; omega
 have hT:(tysD h b k).length=h.ty.toNat:=tyD_len _ _
 unfold blockK at h1 h2
 generalize tysD h b k=T at *
 generalize chD h b k=p at *
 refine lp_ind (fun x=>h.ty.toNat - x.1.2.2.2.2.2.2.2.2.2.2.2.1.toNat) (fun x=>∃ (j:Nat) (l:List Ty),j≤h.ty.toNat∧l.length=T.length∧(∀ i (hi:i < T.length),l[i]? = some ((T[i]).1,(T[i]).2.1 == 1,if i < j then (abbrAt p (T[i]).2.2).1 else [])) ∧
  x=(((k:Int),(),(),false,(),(),(),(),T.all (fun x=>decide (x.2.1 < 2)) && (T.take j).all (fun x=>(abbrAt p x.2.2).2),S p,h.ty,(j:Int),()),tupHd h,((),(),(),ByteArray.mk #[],(0:Int),()),((),(),(),ByteArray.mk #[],h.v,()),((),false,()),RV tr,(TV l,true,false),(NI (T.map (·.2.2)),true,false),(B8 (b.drop (oLp h k)),o,f),())) ?_ ⟨0,T.map fun x=>((x.1,x.2.1 == 1,[]):Ty),by omega,by rw [List.length_map],fun i hi=>by rw [List.getElem?_map,List.getElem?_eq_getElem hi]; rfl,by rw [List.take_zero,List.all_nil,Bool.and_true]; rfl⟩
 rintro x ⟨j,l,hj,hl,hg,rfl⟩ k' hk'
 unfold Lq2n_10
 dsimp only
 by_cases e:j < h.ty.toNat
 ·have e1:w64 ((j:Int)+1)=((j+1:Nat):Int):=by rw [w64_in (by omega) (by omega)]; omega
  have hjT:j < T.length:=by omega
  have hjl:j < l.length:=by omega
  have ht:T.take (j+1)=T.take j++[T[j]]:=List.take_succ_eq_append_getElem hjT
  rw [if_pos (decide_eq_true (by omega)),NI_len,TV_len,List.length_map,Int.toNat_natCast,if_pos (by omega)]
  refine NI_get (by rw [List.length_map]; exact hjT) ?_
  rw [List.getElem_map]
  refine tAt p hpl _ ?_
  rw [if_pos (by omega),if_pos rfl,if_pos (by omega),TV_set2 l j hjl,e1]
  have hlj:l[j]=((T[j]).1,(T[j]).2.1 == 1,[]):=by
   have:=hg j hjT
   rw [List.getElem?_eq_getElem hjl,if_neg (by omega)] at this
   exact Option.some.inj this
  have go:∀ c,c=(T.all (fun x=>decide (x.2.1 < 2)) && (T.take (j+1)).all (fun x=>(abbrAt p x.2.2).2))→k' (((k:Int),(),(),false,(),(),(),(),c,S p,h.ty,((j+1:Nat):Int),()),tupHd h,((),(),(),ByteArray.mk #[],(0:Int),()),((),(),(),ByteArray.mk #[],h.v,()),((),false,()),RV tr,(TV (l.set j ((l[j]).1,(l[j]).2.1,(abbrAt p (T[j]).2.2).1)),true,false),(NI (T.map (·.2.2)),true,false),(B8 (b.drop (oLp h k)),o,f),()):=fun c hc=>by
   refine hk' _ ⟨j+1,l.set j ((l[j]).1,(l[j]).2.1,(abbrAt p (T[j]).2.2).1),e,by rw [List.length_set]; exact hl,fun i hi=>?_,by rw [hc]⟩ (by show h.ty.toNat - ((j+1:Nat):Int).toNat < h.ty.toNat - ((j:Nat):Int).toNat; omega)
   rw [List.getElem?_set]
   by_cases hij:j=i
   ·subst hij
    rw [if_pos rfl,if_pos hjl,hlj,if_pos (by omega)]
   ·rw [if_neg hij,hg i hi]
    by_cases hlt:i < j
    ·rw [if_pos hlt,if_pos (by omega)]
    ·rw [if_neg hlt,if_neg (by omega)]
  have hall:(T.take (j+1)).all (fun x=>(abbrAt p x.2.2).2)=((T.take j).all (fun x=>(abbrAt p x.2.2).2) && (abbrAt p (T[j]).2.2).2):=by
   rw [ht,List.all_append]; simp
  cases hc:(T.all (fun x=>decide (x.2.1 < 2)) && (T.take j).all (fun x=>(abbrAt p x.2.2).2))
  ·rw [if_neg (by simp)]
   exact go _ (by rw [hall,← Bool.and_assoc,hc]; rfl)
  ·rw [if_pos rfl]
   exact go _ (by rw [hall,← Bool.and_assoc,hc]; rfl)
 ·have:j=h.ty.toNat:=by omega
  subst this
  rw [if_neg (dneg (by omega))]
  have el:l=T.map fun x=>(x.1,x.2.1 == 1,(abbrAt p x.2.2).1):=by
   refine List.ext_getElem? fun i=>?_
   by_cases hi:i < T.length
   ·rw [hg i hi,if_pos (by omega),List.getElem?_map,List.getElem?_eq_getElem hi]; rfl
   ·rw [List.getElem?_eq_none (by omega),List.getElem?_eq_none (by rw [List.length_map]; omega)]
  rw [el,List.take_of_length_le (by omega)]
  exact tL11 B tr _ _ o f k1 k2 k' h1 h2
end Go.Proofs.YtbnpclndiichcaaGreatDoor
end
section
set_option linter.unusedVariables false
set_option linter.unusedSimpArgs false
namespace Go.Proofs.YtbnpclndiichcaaGreatDoor
open Go Go.Proofs.YtbnpclndiichcaaGreatDoor.Eng Go.Proofs.YtbnpclndiichcaaGreatDoor.Pl
set_option maxRecDepth 100000
set_option maxHeartbeats 4000000
abbrev trA (b:List UInt8) (k:Nat) (i:Nat):Int:=numB ((b.drop (k * i)).take k)
abbrev trB (b:List UInt8) (k n:Nat) (i:Nat):Int:=numB ((b.drop (k * n+i)).take 1)
theorem tr_zip (b:List UInt8) (k n:Nat) (l:List Rec) (hl:l.length=n) (hg:∀ i,i < n→l[i]? = some (trA b k i,trB b k n i)):l=(secD k n b).zip (secD 1 n (b.drop (k * n))):=by
 have h1:=secD_len k n b
 have h2:=secD_len 1 n (b.drop (k * n))
 refine List.ext_getElem? fun i=>?_
 by_cases hi:i < n
 ·rw [hg i hi,List.getElem?_eq_getElem (by rw [List.length_zip]; omega),List.getElem_zip,secD_get,secD_get,List.drop_drop,Nat.one_mul]
 ·rw [List.getElem?_eq_none (by omega),List.getElem?_eq_none (by rw [List.length_zip]; omega)]
theorem tL9 {h:Hd} {b:List UInt8} {k:Nat} (B:BI h b k) (l0:List Rec) (hl0:l0.length=h.tr.toNat) (hg0:∀ i,i < h.tr.toNat→l0[i]? = some (trA b k i,0)) (o f:Bool) {K:_→Bool→List V→Bool→Bool→List V→Bool→Bool→List V→Bool→Bool→Prop} (k1:_→Prop)
  (h1:blockK h b k=true→K ((),(),(),ByteArray.mk #[],h.v,()) true (TV (blockZ h b k).ty) true false (RV (blockZ h b k).tr) true false (RV (blockZ h b k).lp) true false)
  (h2:blockK h b k=false→K ((),(),(),ByteArray.mk #[],0,()) false [] true true [] true true [] true true) :
  lp (Lq2n_9 Xq1l Xq2g Xq0v Xq3z Xq2p K k1) (((k:Int),(),(),false,(),(),(h.tr.toNat:Int),(0:Int),()),tupHd h,((),(),(),ByteArray.mk #[],(0:Int),()),((),(),(),ByteArray.mk #[],h.v,()),((),false,()),(B8 (b.drop (k * h.tr.toNat)),o,f),RV l0,()):=by
 have o9:=head_ok B.ok
 have htr:=o9.tr
 have hty:=o9.ty
 have hch:=o9.ch
 have hb:=B.len
 have hbd:=B.bd
 have q1:oTy h k=k * h.tr.toNat+h.tr.toNat:=by unfold oTy; rw [Nat.add_mul]; omega
 have q2:oCh h k=oTy h k+6 * h.ty.toNat:=rfl
 have q3:oLp h k=oCh h k+h.ch.toNat:=rfl
 have q4:oSd h k=oLp h k+(k+4) * h.lp.toNat:=rfl
 have q5:oUt h k=oSd h k+h.sd.toNat:=rfl
 have eY:h.ty=((h.ty.toNat:Nat):Int):=by omega
 have eC:h.ch=((h.ch.toNat:Nat):Int):=by omega
 refine lp_ind (fun x=>h.tr.toNat - x.1.2.2.2.2.2.2.2.1.toNat) (fun x=>∃ (j:Nat) (o f:Bool) (l:List Rec),j≤h.tr.toNat∧l.length=h.tr.toNat∧(∀ i,i < h.tr.toNat→l[i]? = some (trA b k i,if i < j then trB b k h.tr.toNat i else 0)) ∧
  x=(((k:Int),(),(),false,(),(),(h.tr.toNat:Int),(j:Int),()),tupHd h,((),(),(),ByteArray.mk #[],(0:Int),()),((),(),(),ByteArray.mk #[],h.v,()),((),false,()),(B8 (b.drop (k * h.tr.toNat+j)),o,f),RV l,())) ?_ ⟨0,o,f,l0,by omega,hl0,fun i hi=>by rw [hg0 i hi,if_neg (by omega)],rfl⟩
 rintro x ⟨j,o,f,l,hj,hl,hg,rfl⟩ k' hk'
 unfold Lq2n_9
 dsimp only
 by_cases e:j < h.tr.toNat
 ·have e1:w64 ((j:Int)+1)=((j+1:Nat):Int):=by rw [w64_in (by omega) (by omega)]; omega
  rw [if_pos (decide_eq_true (by omega))]
  refine tNumS 1 (.inl rfl) _ (by rw [List.length_drop]; omega) (by rw [List.length_drop]; omega) o f ?_
  rw [List.drop_drop,Nat.add_assoc,RV_len,Int.toNat_natCast,if_pos (by omega),if_pos (by omega),RV_set1 l j (by omega),e1]
  refine hk' _ ⟨j+1,false,true,_,e,by rw [List.length_set]; exact hl,fun i hi=>?_,rfl⟩ (by show h.tr.toNat - ((j+1:Nat):Int).toNat < h.tr.toNat - ((j:Nat):Int).toNat; omega)
  rw [List.getElem?_set]
  by_cases hij:j=i
  ·subst hij
   have:=hg j hi
   rw [List.getElem?_eq_getElem (by omega),if_neg (Nat.lt_irrefl j)] at this
   have hlj:=Option.some.inj this
   rw [if_pos rfl,if_pos (by omega),hlj,if_pos (Nat.lt_succ_self j)]
  ·rw [if_neg hij,hg i hi]
   by_cases hlt:i < j
   ·rw [if_pos hlt,if_pos (by omega)]
   ·rw [if_neg hlt,if_neg (by omega)]
 ·have:j=h.tr.toNat:=by omega
  subst this
  rw [if_neg (dneg (by omega)),← q1]
  show Xq2g h.ty false (B8 (b.drop (oTy h k))) o f _
  rw [eY]
  refine tTypes _ _ (by omega) (by rw [List.length_drop]; omega) (by rw [List.length_drop]; omega) o f ?_
  rw [List.drop_drop,← q2]
  show Xq0v h.ch false (B8 (b.drop (oCh h k))) false true _
  rw [eC]
  refine tTakeS _ _ (by rw [List.length_drop]; omega) (by rw [List.length_drop]; omega) false true fun f'=>?_
  rw [if_pos (B8_all _),B8_pack,List.drop_drop,← q3]
  have el:=tr_zip b k h.tr.toNat l hl (fun i hi=>by rw [hg i hi,if_pos hi])
  have hlen:(TV ((tyD h.ty.toNat (b.drop (oTy h k))).map fun x=>((x.1,x.2.1 == 1,[]):Ty))).length=h.ty.toNat:=by rw [TV_len,List.length_map,tyD_len]
  rw [hlen,← eY,el]
  exact tL10 B _ false true k1 k' h1 h2
theorem tL8 {h:Hd} {b:List UInt8} {k:Nat} (B:BI h b k) (o f:Bool) {K:_→Bool→List V→Bool→Bool→List V→Bool→Bool→List V→Bool→Bool→Prop}
  (h1:blockK h b k=true→K ((),(),(),ByteArray.mk #[],h.v,()) true (TV (blockZ h b k).ty) true false (RV (blockZ h b k).tr) true false (RV (blockZ h b k).lp) true false)
  (h2:blockK h b k=false→K ((),(),(),ByteArray.mk #[],0,()) false [] true true [] true true [] true true) :
  lp (Lq2n_8 Xq1l Xq2g Xq0v Xq3z Xq2p K) (((k:Int),(),(),false,(),(),(h.tr.toNat:Int),(0:Int),()),tupHd h,((),(),(),ByteArray.mk #[],(0:Int),()),((),(),(),ByteArray.mk #[],h.v,()),((),false,()),(B8 b,o,f),RV (List.replicate h.tr.toNat (0,0)),()):=by
 have hk3:k=1∨k=4∨k=8:=.inr B.kk
 have o9:=head_ok B.ok
 have htr:=o9.tr
 have hb:=B.len
 have hbd:=B.bd
 have q1:oTy h k=k * h.tr.toNat+h.tr.toNat:=by unfold oTy; rw [Nat.add_mul]; omega
 have q2:oCh h k=oTy h k+6 * h.ty.toNat:=rfl
 have q3:oLp h k=oCh h k+h.ch.toNat:=rfl
 have q4:oSd h k=oLp h k+(k+4) * h.lp.toNat:=rfl
 have q5:oUt h k=oSd h k+h.sd.toNat:=rfl
 refine lp_ind (fun x=>h.tr.toNat - x.1.2.2.2.2.2.2.2.1.toNat) (fun x=>∃ (j:Nat) (o f:Bool) (l:List Rec),j≤h.tr.toNat∧l.length=h.tr.toNat∧(∀ i,i < h.tr.toNat→l[i]? = some (if i < j then trA b k i else 0,0)) ∧
  x=(((k:Int),(),(),false,(),(),(h.tr.toNat:Int),(j:Int),()),tupHd h,((),(),(),ByteArray.mk #[],(0:Int),()),((),(),(),ByteArray.mk #[],h.v,()),((),false,()),(B8 (b.drop (k * j)),o,f),RV l,())) ?_ ⟨0,o,f,_,by omega,List.length_replicate,fun i hi=>by rw [if_neg (by omega)]; simp [hi],rfl⟩
 rintro x ⟨j,o,f,l,hj,hl,hg,rfl⟩ k' hk'
 unfold Lq2n_8
 dsimp only
 by_cases e:j < h.tr.toNat
 ·have e1:w64 ((j:Int)+1)=((j+1:Nat):Int):=by rw [w64_in (by omega) (by omega)]; omega
  have m1:k * (j+1)=k * j+k:=Nat.mul_succ _ _
  have m2:k * (j+1)≤k * h.tr.toNat:=Nat.mul_le_mul_left _ e
  rw [if_pos (decide_eq_true (by omega))]
  refine tNumS k hk3 _ (by rw [List.length_drop]; omega) (by rw [List.length_drop]; omega) o f ?_
  rw [List.drop_drop,← m1,RV_len,Int.toNat_natCast,if_pos (by omega),if_pos (by omega),RV_set0 l j (by omega),e1]
  refine hk' _ ⟨j+1,false,true,_,e,by rw [List.length_set]; exact hl,fun i hi=>?_,rfl⟩ (by show h.tr.toNat - ((j+1:Nat):Int).toNat < h.tr.toNat - ((j:Nat):Int).toNat; omega)
  rw [List.getElem?_set]
  by_cases hij:j=i
  ·subst hij
   have:=hg j hi
   rw [List.getElem?_eq_getElem (by omega),if_neg (Nat.lt_irrefl j)] at this
   have hlj:=Option.some.inj this
   rw [if_pos rfl,if_pos (by omega),hlj,if_pos (Nat.lt_succ_self j)]
  ·rw [if_neg hij,hg i hi]
   by_cases hlt:i < j
   ·rw [if_pos hlt,if_pos (by omega)]
   ·rw [if_neg hlt,if_neg (by omega)]
 ·have:j=h.tr.toNat:=by omega
  subst this
  rw [if_neg (dneg (by omega)),RV_len,hl]
  exact tL9 B l hl (fun i hi=>by rw [hg i hi,if_pos hi]) o f k' h1 h2
theorem tBlockDecode (h:Hd) (b:List UInt8) (hb:b.length≤1000000) (k:Nat) (hk:k=4∨k=8) {K:_→Bool→List V→Bool→Bool→List V→Bool→Bool→List V→Bool→Bool→Prop}
  (h1:(blockD h b k).2=true→K ((),(),(),ByteArray.mk #[],(blockD h b k).1.v,()) true (TV (blockD h b k).1.ty) true false (RV (blockD h b k).1.tr) true false (RV (blockD h b k).1.lp) true false)
  (h2:(blockD h b k).2=false→K ((),(),(),ByteArray.mk #[],0,()) false [] true true [] true true [] true true):Xq2n (tupHd h) (B8 b) (k:Int) K:=by
 unfold Xq2n Yq2n
 refine tSize h k hk ?_
 unfold blockD at h1 h2
 by_cases s0:sizeR h k=0
 ·rw [if_pos (by simp [s0])]
  rw [if_neg (by simp [s0])] at h2
  exact h2 rfl
 rw [if_neg (by simpa using s0),B8_len]
 by_cases s1:(b.length:Int)=sizeR h k
 ·rw [if_neg (by simp [s1])]
  obtain ⟨g1,g2,g3⟩:=size_sum s0
  have B:BI h b k:=⟨hk,g1,by omega,hb⟩
  have o9:=head_ok g1
  have htr:=o9.tr
  have er:List.replicate h.tr.toNat (Eng.ofVal (Value.agg #[Value.int IntKind.i64 (0:Int),Value.int IntKind.i64 (0:Int)]))=RV (List.replicate h.tr.toNat (0,0)):=by
   unfold RV; rw [List.map_replicate]; rfl
  have el:(RV (List.replicate h.tr.toNat ((0,0):Rec))).length=h.tr.toNat:=by rw [RV_len,List.length_replicate]
  have hh:∀ o f,lp (Lq2n_8 Xq1l Xq2g Xq0v Xq3z Xq2p K) (((k:Int),(),(),false,(),(),(h.tr.toNat:Int),(0:Int),()),tupHd h,((),(),(),ByteArray.mk #[],(0:Int),()),((),(),(),ByteArray.mk #[],h.v,()),((),false,()),(B8 b,o,f),RV (List.replicate h.tr.toNat (0,0)),()):=fun o f=>by
   cases hK:blockK h b k
   ·rw [if_neg (by rw [hK]; simp)] at h2
    exact tL8 B o f (fun q=>by rw [hK] at q; cases q) (fun _=>h2 rfl)
   ·rw [if_pos ⟨s0,s1,hK⟩] at h1
    exact tL8 B o f (fun _=>h1 rfl) (fun q=>by rw [hK] at q; cases q)
  refine tOpen b (by omega) fun f=>?_
  have hc:(0:Int)≤h.tr∧h.tr≤h.tr∧h.tr≤4294967296:=⟨by omega,by omega,by omega⟩
  have hg:=hh true f
  unfold tupHd at hg ⊢
  dsimp only
  rw [er,el]
  refine ⟨?_,?_⟩
  ·rw [if_pos hc]; exact ⟨hg,hg⟩
  ·rw [if_pos hc]; exact hg
 ·rw [if_pos (by simpa using s1)]
  rw [if_neg (fun q=>s1 q.2.1)] at h2
  exact h2 rfl
end Go.Proofs.YtbnpclndiichcaaGreatDoor
end
section
set_option linter.unusedVariables false
set_option linter.unusedSimpArgs false
namespace Go.Proofs.YtbnpclndiichcaaGreatDoor
open Go Go.Proofs.YtbnpclndiichcaaGreatDoor.Eng Go.Proofs.YtbnpclndiichcaaGreatDoor.Pl
set_option maxRecDepth 100000
set_option maxHeartbeats 4000000
def numsH (h:Hd):List Int:=[h.ut,h.sd,h.lp,h.tr,h.ty,h.ch]
theorem num4 {h:Hd} (q:headOk h=true):∀ n∈numsH h,0≤n∧n≤10000:=by
 have o:=head_ok q
 obtain ⟨o1,o2,o3,o4,o5,o6,o7⟩:=o
 intro n hn
 simp only [numsH,List.mem_cons,List.not_mem_nil,or_false] at hn
 rcases hn with rfl | rfl | rfl | rfl | rfl | rfl <;> omega
theorem headE_eq (h:Hd):headE h=(magicL++((if 1 < h.v then [UInt8.ofNat (48+h.v).toNat] else [0])++List.replicate 15 0))++((numsH h).map (be 4)).flatten:=by
 unfold headE numsH
 simp only [List.map_cons,List.map_nil,List.flatten_cons,List.flatten_nil,List.append_nil,List.append_assoc]
theorem tHeadLoop (h:Hd) (q:headOk h=true) (P:List UInt8) (hP:P.length≤1000) {K:Bool→List V→Bool→Bool→Prop}
  (hk:∀ f,K true (B8 (P++((numsH h).map (be 4)).flatten)) true f) (f0:Bool) :
  lp (Lq32_0 Xq3s K) (((),false,(),(h.ut,h.sd,h.lp,h.tr,h.ty,h.ch,()),(0:Int),()),(B8 P,true,f0),()):=by
 have n4:=num4 q
 refine lp_ind (fun x=>6 - x.1.2.2.2.2.1.toNat) (fun x=>∃ (j:Nat) (l:List UInt8) (f:Bool),j≤6∧l=P++(((numsH h).take j).map (be 4)).flatten∧x=(((),false,(),(h.ut,h.sd,h.lp,h.tr,h.ty,h.ch,()),(j:Int),()),(B8 l,true,f),())) ?_ ⟨0,P,f0,by omega,by simp,rfl⟩
 rintro x ⟨j,l,f,hj,hl,rfl⟩ k' hk'
 unfold Lq32_0
 dsimp only
 have hlen:l.length≤2000:=by
  rw [hl,List.length_append]
  have:∀ (m:List Int),((m.map (be 4)).flatten).length=4 * m.length:=fun m=>by
   induction m with
   | nil=>rfl
   | cons a r ih=>rw [List.map_cons,List.flatten_cons,List.length_append,be_len,ih,List.length_cons]; omega
  rw [this,List.length_take]
  have:(numsH h).length=6:=rfl
  omega
 by_cases e:j < 6
 ·have e1:w64 ((j:Int)+1)=((j+1:Nat):Int):=by rw [w64_in (by omega) (by omega)]; omega
  have hjn:j < (numsH h).length:=e
  have hget:∀ (j:Nat) (e:j < (numsH h).length),([V.c (.int .i64 h.ut),V.c (.int .i64 h.sd),V.c (.int .i64 h.lp),V.c (.int .i64 h.tr),V.c (.int .i64 h.ty),V.c (.int .i64 h.ch)]:List V)[j * 1]? = some (V.c (.int .i64 (numsH h)[j])):=fun j e=>by
   have e6:j < 6:=e
   match j,e with
   | 0,_=>rfl
   | 1,_=>rfl
   | 2,_=>rfl
   | 3,_=>rfl
   | 4,_=>rfl
   | 5,_=>rfl
   | n+6,e=>exact absurd (show n+6 < 6 from e) (by omega)
  rw [if_pos (decide_eq_true (by omega)),if_pos (by omega),Int.toNat_natCast,hget j hjn,e1]
  have hm:=n4 _ (List.getElem_mem hjn)
  have ht:(numsH h).take (j+1)=(numsH h).take j++[(numsH h)[j]]:=List.take_succ_eq_append_getElem hjn
  generalize (numsH h)[j]=n at *
  show Xq3s (B8 l) n ((4:Nat):Int) _
  refine tPut l (by omega) 4 (.inr (.inl rfl)) n (fun q=>absurd q (by decide)) fun f'=>?_
  rw [if_pos (fits4 hm)]
  refine hk' _ ⟨j+1,l++be 4 n,f',e,?_,rfl⟩ (by show 6 - ((j+1:Nat):Int).toNat < 6 - ((j:Nat):Int).toNat; omega)
  rw [ht,hl,List.map_append,List.flatten_append,List.append_assoc]; simp
 ·have:j=6:=by omega
  subst this
  rw [if_neg (dneg (by omega))]
  have:=hk f
  rw [show (numsH h).take 6=numsH h from rfl] at hl
  rw [← hl] at this
  exact this
theorem tHeadEncode (h:Hd) {K:Bool→List V→Bool→Bool→Prop} (h1:headOk h=true→∀ f,K true (B8 (headE h)) true f) (h2:headOk h=false→K false [] true true):Xq32 (tupHd h) K:=by
 unfold Xq32 Yq32
 refine tHeadRight h ?_
 cases q:headOk h
 ·rw [if_pos (by rfl)]; exact h2 q
 rw [if_neg (by simp)]
 have h1:=h1 q
 rw [headE_eq] at h1
 have o:=head_ok q
 have hv:=o.v
 unfold tupHd
 dsimp only
 by_cases v1:1 < h.v
 ·rw [if_pos (decide_eq_true v1)]
  rw [if_pos v1] at h1
  have hb:∀ v:Int,1 < v→v≤4→V.c (Value.int IntKind.u8 (wu8 (48+wu8 v)))=V.c (Value.int IntKind.u8 ((UInt8.ofNat (48+v).toNat).toNat:Int)):=fun v a b=>by
   have:v=2∨v=3∨v=4:=by omega
   rcases this with rfl | rfl | rfl <;> rfl
  rw [hb h.v v1 hv.2]
  exact tHeadLoop h q (magicL++([UInt8.ofNat (48+h.v).toNat]++List.replicate 15 0)) (by simp [magicL]) h1 false
 ·rw [if_neg (dneg v1)]
  rw [if_neg v1] at h1
  exact tHeadLoop h q (magicL++([0]++List.replicate 15 0)) (by simp [magicL]) h1 false
theorem tVersion (n:Int) (hn:0≤n∧n≤255) {K:Int→Prop} (h:K (versR n)):Xq2o n K:=by
 unfold Xq2o Yq2o
 unfold versR at h
 by_cases h0:n=0
 ·rw [if_pos (by simp [h0])]; rw [if_pos h0] at h; exact h
 rw [if_neg (by simpa using h0)]
 rw [if_neg h0] at h
 by_cases h1:n≥50
 ·rw [if_pos (decide_eq_true h1)]
  by_cases h2:n≤52
  ·rw [if_pos (decide_eq_true h2),w64_in (by omega) (by omega)]
   rw [if_pos ⟨h1,h2⟩] at h; exact h
  ·rw [if_neg (dneg h2)]
   rw [if_neg (by omega)] at h; exact h
 ·rw [if_neg (dneg h1)]
  rw [if_neg (by omega)] at h; exact h
theorem tCont1 (l:List UInt8) (hl:l.length≤1000000) {K:Bool→Prop} (h:K (!l.all (· == 0))):Xq00 (B8 l) K:=by
 unfold Xq00 Yq00 Xq02 Yq02
 rw [B8_len]
 have hu:∀ c:UInt8,(c.toNat:Int)=0↔c=0:=fun c=>⟨fun q=>by
  apply UInt8.toNat_inj.1; show c.toNat=0; omega,fun q=>by rw [q]; rfl⟩
 refine lp_ind (fun x=>l.length - x.1.2.2.2.2.1.toNat) (fun x=>∃ j:Nat,j≤l.length∧(l.take j).all (· == 0)=true∧x=((B8 l,((),()),(0:Int),(l.length:Int),(j:Int),()),())) ?_ ⟨0,by omega,by simp,rfl⟩
 rintro x ⟨j,hj,hall,rfl⟩ k hk
 unfold Lq02_0
 dsimp only
 rw [B8_len,Int.toNat_natCast]
 by_cases e:j < l.length
 ·have e1:w64 ((j:Int)+1)=((j+1:Nat):Int):=by rw [w64_in (by omega) (by omega)]; omega
  rw [if_pos (decide_eq_true (by omega)),if_pos (by omega),e1]
  refine asB8 e ?_
  unfold Xq2j Yq2j
  dsimp only
  by_cases hb:l[j]=0
  ·rw [if_neg (by rw [bne_iff_ne]; exact fun q=>q ((hu _).2 hb))]
   refine hk _ ⟨j+1,e,?_,rfl⟩ (by show l.length - ((j+1:Nat):Int).toNat < l.length - ((j:Nat):Int).toNat; omega)
   rw [List.take_succ_eq_append_getElem e,List.all_append,hall]
   simpa using hb
  ·rw [if_pos (by rw [bne_iff_ne]; exact fun q=>hb ((hu _).1 q))]
   have:l.all (· == 0)=false:=by
    rw [Bool.eq_false_iff]; intro q
    exact hb (eq_of_beq (List.all_eq_true.1 q _ (List.getElem_mem e)))
   rw [this] at h
   rw [show decide ((j:Int)≥0)=true from decide_eq_true (by omega)]
   exact h
 ·have:j=l.length:=by omega
  subst this
  rw [if_neg (dneg (by omega))]
  rw [List.take_length] at hall
  rw [hall] at h
  exact h
theorem tNumG (k:Nat) (hk:k=1∨k=4∨k=8) (bad:Bool) (l:List UInt8) (hl:l.length≤1000000) (m:Nat) (hs:bad=true∨l.length < k+m) (o f:Bool) {K:Int→Bool→List V→Bool→Bool→Prop}
  (h:∀ v bad' l' o' f',(bad'=true∨l'.length < m)→l'.length≤1000000→(k=1→0≤v∧v≤255)→K v bad' (B8 l') o' f'):Xq1l (k:Int) bad (B8 l) o f K:=by
 refine tNum k hk bad l (by omega) o f (fun hb hn=>?_) fun hb=>h 0 true [] true true (.inl rfl) (by simp) (fun _=>⟨by decide,by decide⟩)
 refine h _ false _ false true (.inr ?_) (by rw [List.length_drop]; omega) (fun k1=>?_)
 ·rcases hs with hs | hs
  ·rw [hb] at hs; cases hs
  ·rw [List.length_drop]; omega
 ·subst k1
  have:=num_fits' (.inl rfl) (take_len' (l:=l) (k:=1) hn)
  unfold fits at this
  rw [if_pos rfl,decide_eq_true_eq] at this; omega
theorem tTakeG (n:Nat) (bad:Bool) (l:List UInt8) (hl:l.length≤1000000) (m:Nat) (hs:bad=true∨l.length < n+m) (o f:Bool) {K:Bool→List V→Bool→Bool→List V→Bool→Bool→Prop}
  (h:∀ bad' t o1 f1 l' o' f',(bad'=true∨l'.length < m)→l'.length≤1000000→K bad' (B8 t) o1 f1 (B8 l') o' f'):Xq0v (n:Int) bad (B8 l) o f K:=by
 refine tTake n bad l (by omega) o f (fun hb hn f'=>?_) fun hb=>h true [] true true [] true true (.inl rfl) (by simp)
 refine h false _ true f' _ false true (.inr ?_) (by rw [List.length_drop]; omega)
 rcases hs with hs | hs
 ·rw [hb] at hs; cases hs
 ·rw [List.length_drop]; omega
theorem tHeadDecode (b:List UInt8) (hb:b.length≤1000000) {K:Int×Int×Int×Int×Int×Int×Int×Unit→Bool→Prop} (h:K (tupHd (headD b).1) (headD b).2):Xq2z (B8 b) K:=by
 unfold Xq2z Yq2z
 refine tOpen b (by omega) fun f=>?_
 unfold headD at h
 by_cases h44:b.length < 44
 ·rw [if_neg (by omega)] at h
  refine tTakeG 4 false b hb 40 (.inr (by omega)) true f fun bad t o1 f1 l o' f' hs hl=>?_
  rw [if_pos (B8_all _)]
  refine tNumG 1 (.inl rfl) bad l hl 39 hs o' f' fun v bad l o' f' hs hl hv=>?_
  refine tVersion v (hv rfl) ?_
  refine tTakeG 15 bad l hl 24 hs o' f' fun bad t o1 f1 l o' f' hs hl=>?_
  refine tNumG 4 (.inr (.inl rfl)) bad l hl 20 hs o' f' fun v bad l o' f' hs hl _=>?_
  refine tNumG 4 (.inr (.inl rfl)) bad l hl 16 hs o' f' fun v bad l o' f' hs hl _=>?_
  refine tNumG 4 (.inr (.inl rfl)) bad l hl 12 hs o' f' fun v bad l o' f' hs hl _=>?_
  refine tNumG 4 (.inr (.inl rfl)) bad l hl 8 hs o' f' fun v bad l o' f' hs hl _=>?_
  refine tNumG 4 (.inr (.inl rfl)) bad l hl 4 hs o' f' fun v bad l o' f' hs hl _=>?_
  refine tNumG 4 (.inr (.inl rfl)) bad l hl 0 hs o' f' fun v bad l o' f' hs hl _=>?_
  have hbad:bad=true:=by
                 rcases hs with q | q; · exact q
                 ·omega
  unfold Xq21 Yq21
  dsimp only
  rw [hbad,if_pos (by rfl)]
  exact h
 ·refine tTakeS 4 b (by omega) (by omega) true f fun f1=>?_
  rw [if_pos (B8_all _),B8_pack]
  refine tNumS 1 (.inl rfl) _ (by rw [List.length_drop]; omega) (by rw [List.length_drop]; omega) false true ?_
  rw [List.drop_drop]
  have hv:0≤numB ((b.drop 4).take 1)∧numB ((b.drop 4).take 1)≤255:=by
   have:=num_fits' (.inl rfl) (take_len' (l:=b.drop 4) (k:=1) (by rw [List.length_drop]; omega))
   unfold fits at this
   rw [if_pos rfl,decide_eq_true_eq] at this; omega
  refine tVersion _ hv ?_
  refine tTakeS 15 _ (by rw [List.length_drop]; omega) (by rw [List.length_drop]; omega) false true fun f2=>?_
  rw [List.drop_drop]
  refine tNumS 4 (.inr (.inl rfl)) _ (by rw [List.length_drop]; omega) (by rw [List.length_drop]; omega) false true ?_
  rw [List.drop_drop]
  refine tNumS 4 (.inr (.inl rfl)) _ (by rw [List.length_drop]; omega) (by rw [List.length_drop]; omega) false true ?_
  rw [List.drop_drop]
  refine tNumS 4 (.inr (.inl rfl)) _ (by rw [List.length_drop]; omega) (by rw [List.length_drop]; omega) false true ?_
  rw [List.drop_drop]
  refine tNumS 4 (.inr (.inl rfl)) _ (by rw [List.length_drop]; omega) (by rw [List.length_drop]; omega) false true ?_
  rw [List.drop_drop]
  refine tNumS 4 (.inr (.inl rfl)) _ (by rw [List.length_drop]; omega) (by rw [List.length_drop]; omega) false true ?_
  rw [List.drop_drop]
  refine tNumS 4 (.inr (.inl rfl)) _ (by rw [List.length_drop]; omega) (by rw [List.length_drop]; omega) false true ?_
  unfold Xq21 Yq21
  dsimp only
  rw [if_neg (by simp)]
  simp only [lt]
  have em:(ByteArray.toList (S (b.take 4)) == ByteArray.toList (ByteArray.mk #[(84:UInt8),(90:UInt8),(105:UInt8),(102:UInt8)]))=(b.take 4 == magicL):=by
   rw [show ByteArray.mk #[(84:UInt8),(90:UInt8),(105:UInt8),(102:UInt8)]=S magicL from rfl,S_toList,S_toList]
  rw [em]
  by_cases c1:b.take 4=magicL
  ·rw [if_neg (by simp [c1])]
   refine tCont1 _ (by rw [List.length_take]; omega) ?_
   cases c2:((b.drop 5).take 15).all (· == 0)
   ·rw [if_pos (by rfl)]
    rw [if_neg (fun q=>by rw [c2] at q; exact absurd q.2.2.1 (by simp))] at h
    exact h
   ·rw [if_neg (by simp)]
    refine tHeadRight (headG b) ?_
    cases c3:headOk (headG b)
    ·rw [if_pos (by rfl)]
     rw [if_neg (fun q=>by rw [c3] at q; exact absurd q.2.2.2 (by simp))] at h
     exact h
    ·rw [if_neg (by simp)]
     rw [if_pos ⟨by omega,c1,c2,c3⟩] at h
     exact h
  ·rw [if_pos (by simpa using c1)]
   rw [if_neg (fun q=>c1 q.2.1)] at h
   exact h
def SV (L:List (List UInt8)):List V:=L.map fun a=>V.sl 1 false (B8 a)
theorem SV_len (L:List (List UInt8)):(SV L).length=L.length:=by simp [SV]
theorem asSV {L:List (List UInt8)} {i:Nat} (h:i < L.length) {F:Prop} {K:Bool→List V→Prop} (hk:K false (B8 L[i])):Eng.asSl 1 (getC (SV L) i 0) F K:=by
 have:getC (SV L) i 0=some (V.sl 1 false (B8 L[i])):=by simp [getC,SV,V.cells,h]
 rw [this]; exact hk
theorem flat_le (L:List (List UInt8)) (m:Nat) (hm:∀ a∈L,a.length≤m):L.flatten.length≤m * L.length:=by
 induction L with
 | nil=>simp
 | cons a r ih =>
  rw [List.flatten_cons,List.length_append,List.length_cons,Nat.mul_succ]
  have:=hm a (.head _)
  have:=ih fun x hx=>hm x (.tail _ hx)
  omega
theorem flat_snoc (L:List (List UInt8)) (j:Nat) (h:j < L.length):(L.take (j+1)).flatten=(L.take j).flatten++L[j]:=by
 rw [List.take_succ_eq_append_getElem h,List.flatten_append]; simp
theorem tConcat (L:List (List UInt8)) (hL:L.length≤10) (hl:∀ a∈L,a.length≤1000000) {K:List V→Bool→Bool→Prop} (h:∀ f,(L.flatten≠[]→f=false)→K (B8 L.flatten) true f):Xq09 (SV L) K:=by
 unfold Xq09 Yq09
 rw [SV_len]
 have hfl:∀ j,(L.take j).flatten.length≤10000000:=fun j=>by
  have h1:=flat_le (L.take j) 1000000 fun a ha=>hl a (List.mem_of_mem_take ha)
  have h2:(L.take j).length≤10:=by rw [List.length_take]; omega
  have:=Nat.mul_le_mul_left 1000000 h2
  omega
 refine lp_ind (fun x=>L.length - x.1.2.2.2.2.2.1.toNat) (fun x=>∃ j:Nat,j≤L.length∧x=((SV L,(),((L.take j).flatten.length:Int),SV L,(L.length:Int),(j:Int),()),())) ?_ ⟨0,by omega,by simp⟩
 rintro x ⟨j,hj,rfl⟩ k hk
 unfold Lq09_0
 dsimp only
 rw [SV_len]
 by_cases e:j < L.length
 ·have e1:w64 ((j:Int)+1)=((j+1:Nat):Int):=by rw [w64_in (by omega) (by omega)]; omega
  rw [if_pos (decide_eq_true (by omega)),if_pos (by omega),Int.toNat_natCast,e1]
  refine asSV e ?_
  have hfs:=flat_snoc L j e
  have h1:=hfl j
  have h2:=hfl (j+1)
  have e2:w64 (((L.take j).flatten.length:Int)+((B8 L[j]).length:Int))=((L.take (j+1)).flatten.length:Int):=by
   rw [hfs,List.length_append] at h2 ⊢
   rw [B8_len,w64_in (by omega) (by omega)]; omega
  rw [e2,if_neg (dneg (by omega))]
  exact hk _ ⟨j+1,e,rfl⟩ (by show L.length - ((j+1:Nat):Int).toNat < L.length - ((j:Nat):Int).toNat; omega)
 ·have:j=L.length:=by omega
  subst this
  rw [if_neg (dneg (by omega)),List.take_length]
  have hF:=hfl L.length
  rw [List.take_length] at hF
  have main:∀ f,(L.flatten≠[]→f=false)→lp (Lq09_1 K k) (((),(),SV L,(L.length:Int),(0:Int),()),([],true,f),()):=fun f hf=>by
   refine lp_ind (fun x=>L.length - x.1.2.2.2.2.1.toNat) (fun x=>∃ j:Nat,j≤L.length∧x=(((),(),SV L,(L.length:Int),(j:Int),()),(B8 (L.take j).flatten,true,f),())) ?_ ⟨0,by omega,by simp [B8]⟩
   rintro x ⟨j,hj,rfl⟩ k' hk'
   unfold Lq09_1
   dsimp only
   rw [SV_len]
   by_cases e:j < L.length
   ·have e1:w64 ((j:Int)+1)=((j+1:Nat):Int):=by rw [w64_in (by omega) (by omega)]; omega
    rw [if_pos (decide_eq_true (by omega)),if_pos (by omega),Int.toNat_natCast,e1]
    refine asSV e ?_
    have hfs:=flat_snoc L j e
    have h2:=hfl (j+1)
    rw [hfs,List.length_append] at h2
    rw [if_pos rfl,if_pos (room1 _ (by rw [B8_len,B8_len]; omega)),B8_app,← hfs]
    exact hk' _ ⟨j+1,e,rfl⟩ (by show L.length - ((j+1:Nat):Int).toNat < L.length - ((j:Nat):Int).toNat; omega)
   ·have:j=L.length:=by omega
    subst this
    rw [if_neg (dneg (by omega)),List.take_length]
    exact h f hf
  unfold Xq0d Yq0d
  have e0:w64 ((L.flatten.length:Int) - 0)=(L.flatten.length:Int):=by rw [Int.sub_zero,w64_in (by omega) (by omega)]
  rw [if_neg (dneg (by omega)),e0]
  by_cases z:(L.flatten.length:Int) > 0
  ·rw [if_pos (decide_eq_true z),if_pos (by omega),if_pos (room1 _ (by rw [List.length_replicate]; omega))]
   exact main false (fun _=>rfl)
  ·rw [if_neg (dneg z)]
   exact main true (fun q=>absurd (List.length_pos_iff.2 q) (by omega))
end Go.Proofs.YtbnpclndiichcaaGreatDoor
end
section
set_option linter.unusedVariables false
set_option linter.unusedSimpArgs false
namespace Go.Proofs.YtbnpclndiichcaaGreatDoor
open Go Go.Proofs.YtbnpclndiichcaaGreatDoor.Eng Go.Proofs.YtbnpclndiichcaaGreatDoor.Pl
set_option maxRecDepth 100000
set_option maxHeartbeats 4000000
theorem size_nn (h:Hd) (k:Nat):0≤sizeR h k:=by
 by_cases e:sizeR h k=0
 ·omega
 ·have:=(size_sum e).2.2; omega
theorem headD_len {b:List UInt8} (h:(headD b).2=true):44≤b.length∧headOk (headD b).1=true:=by
 unfold headD at h ⊢
 split at h
 ·rename_i q; rw [if_pos q]; exact ⟨q.1,q.2.2.2⟩
 ·cases h
theorem tCut (b:List UInt8) (hb:b.length≤1000000) (k:Nat) (hk:k=4∨k=8) {K:_→Bool→List V→Bool→Bool→List V→Bool→Bool→Prop}
  (h1:cutOk b k=true→K (tupHd (headD b).1) true (B8 (cutA b k)) false true (B8 (cutB b k)) false true) (h2:cutOk b k=false→∀ r,K r false [] true true [] true true):Xq3x (B8 b) (k:Int) K:=by
 unfold Xq3x Yq3x
 refine tHeadDecode b hb ?_
 cases c0:(headD b).2
 ·rw [if_pos (by rfl)]
  exact h2 (by unfold cutOk; rw [c0]; rfl) _
 obtain ⟨hl,ho⟩:=headD_len c0
 have ed:cutL (B8 b) 44 (b.length - 44)=B8 (b.drop 44):=by
  rw [B8_cut,List.take_of_length_le (by rw [List.length_drop]; omega)]
 rw [if_neg (by simp),B8_len,Int.toNat_natCast,ed,if_pos (by omega),if_pos (by omega),B8_len,Int.toNat_natCast]
 unfold cutOk cutA cutB at h1
 unfold cutOk at h2
 rw [c0,Bool.true_and] at h1 h2
 have hn:=size_nn (headD b).1 (hSz (headD b).1 k)
 have hdl:(b.drop 44).length=b.length - 44:=List.length_drop
 have fin:∀ s:Int,s=sizeR (headD b).1 (hSz (headD b).1 k)→(if decide (s > ((b.drop 44).length:Int))=true then K (tupHd (headD b).1) false [] true true [] true true else
   (if (0:Int)≤s∧s≤((b.drop 44).length:Int) then (if (0:Int)≤0∧0≤s then (if (0:Int)≤((b.drop 44).length:Int)∧((b.drop 44).length:Int)≤((b.drop 44).length:Int) then (if (0:Int)≤s∧s≤((b.drop 44).length:Int) then
    (K (tupHd (headD b).1) true (cutL (B8 (b.drop 44)) 0 (Int.toNat s - 0)) false true (cutL (B8 (b.drop 44)) (Int.toNat s) ((b.drop 44).length - Int.toNat s)) false true) else False) else False) else False) else False)):=fun s hs=>by
  rw [← hs] at h1 h2 hn
  by_cases c:s > ((b.drop 44).length:Int)
  ·rw [if_pos (decide_eq_true c)]
   exact h2 (decide_eq_false (by omega)) _
  ·rw [if_neg (dneg c),if_pos (by omega),if_pos (by omega),if_pos (by omega),if_pos (by omega),B8_cut,B8_cut,List.drop_zero,Nat.sub_zero]
   have e9:((b.drop 44).drop s.toNat).take ((b.drop 44).length - s.toNat)=(b.drop 44).drop s.toNat:=List.take_of_length_le (by rw [List.length_drop]; omega)
   rw [e9]
   exact h1 (decide_eq_true (by omega))
 by_cases v1:(headD b).1.v=1
 ·have e:hSz (headD b).1 k=4:=by unfold hSz; rw [if_pos v1]
  rw [if_pos (show ((tupHd (headD b).1).1 == (1:Int))=true by unfold tupHd; simp [v1])]
  refine tSize _ 4 (.inl rfl) ?_
  exact fin _ (by rw [e])
 ·have e:hSz (headD b).1 k=k:=by unfold hSz; rw [if_neg v1]
  rw [if_neg (show ¬ ((tupHd (headD b).1).1 == (1:Int))=true by unfold tupHd; simpa using v1)]
  refine tSize _ k hk ?_
  exact fin _ (by rw [e])
theorem tCutSuffix (l:List UInt8) (hl:l.length≤100000000) (c:UInt8) {K:ByteArray→Bool→Prop} (h1:l.getLast? = some c→K (S l.dropLast) true) (h2:l.getLast?≠some c→K (S l) false):Xq13 (S l) (S [c]) K:=by
 unfold Xq13 Yq13 Xq07 Yq07 Xq06 Yq06
 rw [S_size,S_size]
 have e1:(([c]:List UInt8).length:Int)=1:=rfl
 rw [e1]
 by_cases e:(l.length:Int)≥1
 ·have e2:w64 ((l.length:Int) - 1)=((l.length - 1:Nat):Int):=by rw [w64_in (by omega) (by omega)]; omega
  simp only [lt]
  rw [if_pos (decide_eq_true e),e2,if_pos (by omega),if_pos (by omega),Int.toNat_natCast,Int.toNat_natCast,S_extract,S_toList,S_toList,S_take]
  have e3:(l.drop (l.length - 1)).take (l.length - (l.length - 1))=[l[l.length - 1]'(by omega)]:=by
   rw [List.take_of_length_le (by rw [List.length_drop]; omega),List.drop_eq_getElem_cons (by omega),List.drop_of_length_le (by omega)]
  have e4:l.getLast? = some (l[l.length - 1]'(by omega)):=by rw [List.getLast?_eq_getElem?,List.getElem?_eq_getElem (by omega)]
  rw [e3]
  rw [e4] at h1 h2
  by_cases q:(l[l.length - 1]'(by omega))=c
  ·rw [if_neg (by rw [q]; simp),if_pos (by omega),if_pos (by omega),← List.dropLast_eq_take]
   exact h1 (by rw [q])
  ·rw [if_pos (by simpa using q)]
   exact h2 (fun h=>q (Option.some.inj h))
 ·have:l=[]:=List.eq_nil_of_length_eq_zero (by omega)
  subst this
  rw [if_neg (dneg e)]
  dsimp only
  rw [if_pos (show (!false)=true from rfl)]
  exact h2 (by simp)
theorem tContains (l:List UInt8) (hl:l.length≤100000000) (c:UInt8) {K:Bool→Prop} (h:K (l.any (· == c))):Xq1q (S l) (S [c]) K:=by
 unfold Xq1q Yq1q Xq2i Yq2i
 refine sIndex l c ?_
 rw [nl_any] at h
 by_cases e:nl (· == c) l < l.length
 ·rw [if_pos e]
  dsimp only
  rw [show decide (((nl (· == c) l:Nat):Int)≥0)=true from decide_eq_true (by omega)]
  rw [decide_eq_true e] at h; exact h
 ·rw [if_neg e]
  dsimp only
  rw [show decide ((-1:Int)≥0)=false from rfl]
  rw [decide_eq_false e] at h; exact h
theorem tFoot (b:List UInt8) (hb:b.length≤1000000) {K:ByteArray→Bool→Prop} (h1:footOk b=true→K (S b.tail.dropLast) true) (h2:footOk b=false→∀ s,K s false):Xq3l (B8 b) K:=by
 unfold Xq3l Yq3l
 rw [if_pos (B8_all _),B8_pack]
 refine sCutPrefix b 10 ?_
 by_cases c:b.head? = some 10
 ·obtain ⟨r,rfl⟩:∃ r,b=10 :: r:=by
   cases b with
   | nil=>simp at c
   | cons a r=>exact ⟨r,by simpa using c⟩
  have ep:cutP 10 (10 :: r)=(r,true):=rfl
  rw [ep]
  have hr:r.length≤1000000:=by simp at hb; omega
  have ef:footOk (10 :: r)=(r.getLast? == some 10 && !r.dropLast.any (· == 10)):=by
   unfold footOk
   cases r with
   | nil=>rfl
   | cons a t =>
    have:(10 :: a :: t).getLast? = (a :: t).getLast?:=by rw [List.getLast?_cons_cons]
    rw [this,List.tail_cons]
    simp
  refine tCutSuffix r (by omega) 10 (fun hq=>?_) (fun hq=>?_)
  ·rw [if_pos rfl,if_pos rfl]
   have hd:r.dropLast.length≤1000000:=by rw [List.length_dropLast]; omega
   refine tContains r.dropLast (by omega) 10 ?_
   rw [hq] at ef
   cases ha:r.dropLast.any (· == 10)
   ·rw [ha] at ef
    exact h1 (by rw [ef]; rfl)
   ·rw [ha] at ef
    exact h2 (by rw [ef]; rfl) _
  ·rw [if_pos rfl,if_neg (by simp)]
   refine h2 ?_ _
   rw [ef]
   have:(r.getLast? == some (10:UInt8))=false:=by rw [Bool.eq_false_iff]; intro q; exact hq (by simpa using q)
   rw [this]; rfl
 ·have ep:cutP 10 b=(b,false):=by unfold cutP; rw [if_neg c]
  rw [ep]
  have ef:footOk b=false:=by
   unfold footOk
   have:(b.head? == some (10:UInt8))=false:=by rw [Bool.eq_false_iff]; intro q; exact c (by simpa using q)
   rw [this,Bool.and_false]; rfl
  refine tCutSuffix b (by omega) 10 (fun hq=>?_) (fun hq=>?_)
  ·rw [if_neg (by simp)]; exact h2 ef _
  ·rw [if_neg (by simp)]; exact h2 ef _
theorem cutA_len (b:List UInt8) (k:Nat):(cutA b k).length≤b.length:=by unfold cutA; rw [List.length_take,List.length_drop]; omega
theorem cutB_len (b:List UInt8) (k:Nat):(cutB b k).length≤b.length:=by unfold cutB; rw [List.length_drop,List.length_drop]; omega
theorem tRead (b:List UInt8) (hb:b.length≤1000000) {K:Unit×Unit×Unit×ByteArray×Int×Unit→Bool→List V→Bool→Bool→List V→Bool→Bool→List V→Bool→Bool→Prop}
  (h1:(readD b).2=true→K ((),(),(),S (readD b).1.ft,(readD b).1.v,()) true (TV (readD b).1.ty) true false (RV (readD b).1.tr) true false (RV (readD b).1.lp) true false)
  (h2:(readD b).2=false→∀ z x1 x2 x3 x4 x5 x6 x7 x8 x9,K z false x1 x2 x3 x4 x5 x6 x7 x8 x9):Xq3n (B8 b) K:=by
 unfold Xq3n Yq3n
 unfold readD at h1 h2
 refine tCut b hb 4 (.inl rfl) (fun c=>?_) (fun c r=>?_)
 ·rw [if_neg (by simp)]
  rw [if_pos c] at h1 h2
  have la:=cutA_len b 4
  have lb:=cutB_len b 4
  by_cases v1:(headD b).1.v=1
  ·rw [if_pos (show ((tupHd (headD b).1).1 == (1:Int))=true by unfold tupHd; simp [v1])]
   rw [if_pos v1] at h1 h2
   refine tBlockDecode _ _ (by omega) 4 (.inl rfl) (fun q=>?_) (fun q=>?_)
   ·rw [if_pos rfl,B8_len]
    have ft0:(blockD (headD b).1 (cutA b 4) 4).1.ft=[]:=by
     unfold blockD at q ⊢
     split at q
     ·rename_i w; rw [if_pos w]; rfl
     ·cases q
    by_cases z:cutB b 4=[]
    ·rw [if_pos ⟨q,z⟩] at h1
     have h1:=h1 rfl
     rw [ft0] at h1
     rw [z]
     exact h1
    ·rw [if_neg (fun w=>z w.2)] at h2
     have:(((cutB b 4).length:Int) == 0)=false:=by
      rw [Bool.eq_false_iff]; intro w
      exact z (List.eq_nil_of_length_eq_zero (by have:=eq_of_beq w; omega))
     rw [this]
     exact h2 rfl _ _ _ _ _ _ _ _ _ _
   ·rw [if_neg (by simp)]
    rw [if_neg (fun w=>by rw [q] at w; exact absurd w.1 (by simp))] at h2
    exact h2 rfl _ _ _ _ _ _ _ _ _ _
  ·rw [if_neg (show ¬ ((tupHd (headD b).1).1 == (1:Int))=true by unfold tupHd; simpa using v1)]
   rw [if_neg v1] at h1 h2
   generalize hB:cutB b 4=B at *
   refine tCut B (by omega) 8 (.inr rfl) (fun c2=>?_) (fun c2 r=>?_)
   ·rw [if_neg (by simp)]
    have la2:=cutA_len B 8
    have lb2:=cutB_len B 8
    by_cases vv:(headD B).1.v=(headD b).1.v
    ·rw [if_neg (show ¬ ((tupHd (headD B).1).1 != (tupHd (headD b).1).1)=true by unfold tupHd; simp [vv])]
     refine tBlockDecode _ _ (by omega) 8 (.inr rfl) (fun q=>?_) (fun q=>?_)
     ·refine tFoot _ (by omega) (fun f=>?_) (fun f s=>?_)
      ·rw [if_pos rfl]
       rw [if_pos ⟨c2,vv,q,f⟩] at h1
       exact h1 rfl
      ·rw [if_pos rfl]
       rw [if_neg (fun w=>by rw [f] at w; exact absurd w.2.2.2 (by simp))] at h2
       exact h2 rfl _ _ _ _ _ _ _ _ _ _
     ·rw [if_neg (fun w=>by rw [q] at w; exact absurd w.2.2.1 (by simp))] at h2
      refine tFoot _ (by omega) (fun f=>?_) (fun f s=>?_)
      ·rw [if_neg (by simp)]
       exact h2 rfl _ _ _ _ _ _ _ _ _ _
      ·rw [if_neg (by simp)]
       exact h2 rfl _ _ _ _ _ _ _ _ _ _
    ·rw [if_pos (show ((tupHd (headD B).1).1 != (tupHd (headD b).1).1)=true by unfold tupHd; simpa using vv)]
     rw [if_neg (fun w=>vv w.2.1)] at h2
     exact h2 rfl _ _ _ _ _ _ _ _ _ _
   ·rw [if_pos (by rfl)]
    rw [if_neg (fun w=>by rw [c2] at w; exact absurd w.1 (by simp))] at h2
    exact h2 rfl _ _ _ _ _ _ _ _ _ _
 ·rw [if_pos (by rfl)]
  rw [if_neg (by rw [c]; simp)] at h2
  exact h2 rfl _ _ _ _ _ _ _ _ _ _
end Go.Proofs.YtbnpclndiichcaaGreatDoor
end
section
set_option linter.unusedVariables false
set_option linter.unusedSimpArgs false
namespace Go.Proofs.YtbnpclndiichcaaGreatDoor
open Go Go.Proofs.YtbnpclndiichcaaGreatDoor.Eng Go.Proofs.YtbnpclndiichcaaGreatDoor.Pl
set_option maxRecDepth 100000
set_option maxHeartbeats 4000000
theorem count_head (z:Zn):countOk z=(((z.ty.map (·.2.2)).all abbrL && decide (poolN [] (z.ty.map (·.2.2))≤256)) && headOk (hdZ z)):=by
 have e:=poolL_size (namesZ z)
 unfold countOk headOk hdZ
 dsimp only
 rw [e]
 unfold namesZ
 simp only [beq_self_eq_true,Bool.true_or,Bool.and_true,← Bool.and_assoc]
theorem hdZ_tup (z:Zn) (c:Nat) (hc:(poolL (namesZ z)).1.length=c):tupHd (hdZ z)=(z.v,0,0,(z.lp.length:Int),(z.tr.length:Int),(z.ty.length:Int),(c:Int),()):=by
 unfold tupHd hdZ; dsimp only; rw [hc]
theorem tCountZ (z:Zn) (hz:ZI z) {K:Int×Int×Int×Int×Int×Int×Int×Unit→Bool→Prop} (h1:countOk z=true→K (tupHd (hdZ z)) true) (h2:countOk z=false→K (tupHd hd0) false):Xq2x (tupZ z) K:=by
 unfold Xq2x Yq2x
 rw [count_head] at h1 h2
 refine tpoolZ z hz (fun o y q=>?_) (fun q p a o y=>?_)
 ·rw [if_neg (by simp)]
  rw [q,Bool.true_and] at h1 h2
  simp only [tupZ_eq,TV_len,RV_len,S_size]
  generalize hc:(poolL (z.ty.map (·.2.2))).1.length=c
  rw [← hdZ_tup z c hc]
  refine tHeadRight (hdZ z) ?_
  cases c:headOk (hdZ z)
  ·rw [if_pos (show (!false)=true from rfl)]; exact h2 c
  ·rw [if_neg (by simp)]; exact h1 c
 ·rw [if_pos (show (!false)=true from rfl)]
  exact h2 (by rw [q]; rfl)
theorem blockB_le (z:Zn) (hz:ZI z) (k:Nat) (hk:k=4∨k=8):(blockB z k).length≤100000:=by
 have pbd:=poolG_bd (namesZ z) [] [] 100 (fun s hs=>by
  obtain ⟨t,ht,rfl⟩:=List.mem_map.1 hs
  exact hz.nm t ht) (by simp)
 have hnl:(namesZ z).length=z.ty.length:=by simp [namesZ]
 have h1:=pbd.1
 rw [hnl] at h1
 rw [block_len]
 unfold poolL
 have:=hz.ty; have:=hz.tr; have:=hz.lp
 simp at h1
 rcases hk with rfl | rfl <;> omega
theorem tPart (z:Zn) (hz:ZI z) (k:Nat) (hk:k=4∨k=8) {K:Bool→List V→Bool→Bool→Prop} (h1:(blockR z k).2=true→K true (B8 (partR z k)) true false) (h2:(blockR z k).2=false→∀ l o f,K false l o f):Xq3j (tupZ z) (k:Int) K:=by
 unfold Xq3j Yq3j
 have hbl:=blockB_le z hz k hk
 refine tCountZ z hz (fun c=>?_) (fun c=>?_)
 ·refine tHeadEncode (hdZ z) (fun q f=>?_) (fun q=>?_)
  ·refine tEncode z hz k hk fun o f2=>?_
   cases hb:(blockR z k).2
   ·have hl:(blockR z k).1=[]:=by
     unfold blockR at hb ⊢; split at hb
     ·cases hb
     ·rename_i w; rw [if_neg w]
    rw [hl]
    refine tConcat [headE (hdZ z),[]] (by simp) (fun a ha=>?_) fun f3 _=>?_
    ·simp only [List.mem_cons,List.not_mem_nil,or_false] at ha
     rcases ha with rfl | rfl
     ·rw [headE_len]; omega
     ·simp
    ·rw [if_pos rfl]; exact h2 hb _ _ _
   ·obtain ⟨w1,w2⟩:=blockR_ok hb
    rw [w2]
    dsimp only
    refine tConcat [headE (hdZ z),blockB z k] (by simp) (fun a ha=>?_) fun f3 hf3=>?_
    ·simp only [List.mem_cons,List.not_mem_nil,or_false] at ha
     rcases ha with rfl | rfl
     ·rw [headE_len]; omega
     ·omega
    ·have e:[headE (hdZ z),blockB z k].flatten=partR z k:=by simp [partR]
     have hne:[headE (hdZ z),blockB z k].flatten≠[]:=fun w=>by
      have:=congrArg List.length w
      rw [e,part_len] at this; simp at this
     rw [if_pos rfl,hf3 hne,e]
     exact h1 hb
  ·rw [head_hdZ c] at q; cases q
 ·have hb:(blockR z k).2=false:=by unfold blockR; rw [if_neg (by rw [c]; simp)]
  have hl:(blockR z k).1=[]:=by unfold blockR; rw [if_neg (by rw [c]; simp)]
  refine tHeadEncode hd0 (fun q f=>absurd q (by decide)) (fun q=>?_)
  refine tEncode z hz k hk fun o f2=>?_
  rw [hl]
  refine tConcat [[],[]] (by simp) (fun a ha=>by simp only [List.mem_cons,List.not_mem_nil,or_false] at ha; rcases ha with rfl | rfl <;> simp) fun f3 _=>?_
  rw [if_neg (by simp)]; exact h2 hb _ _ _
theorem size_hd1 {v:Int} (h:1≤v∧v≤4):sizeR ⟨v,0,0,0,0,1,1⟩ 4=7:=by
 unfold sizeR; rw [if_pos ⟨hd1_ok h,.inl rfl⟩]; simp
theorem tTzEncode (z:Zn) (hz:ZI z) {K:Bool→List V→Bool→Bool→Prop} (h1:(encR z).2=true→K true (B8 (encR z).1) true false) (h2:(encR z).2=false→K false [] true true):Xq2u (tupZ z) K:=by
 unfold Xq2u Yq2u
 have ev:(tupZ z).2.2.2.2.1=z.v:=rfl
 have ef:(tupZ z).2.2.2.1=S z.ft:=rfl
 rw [ev,ef]
 unfold encR at h1 h2
 by_cases v1:z.v=1
 ·have es:szZ z=4:=by unfold szZ; rw [if_pos v1]
  rw [es,if_pos v1] at h1
  rw [es] at h2
  rw [if_pos (by simp [v1])]
  refine tPart z hz 4 (.inl rfl) (fun hb=>?_) (fun hb l o f=>?_)
  ·rw [if_neg (by simp)]
   refine sRight z hz ?_
   cases hr:zoneRight z
   ·rw [if_pos (by rfl)]
    rw [if_neg (by rw [hr]; simp)] at h2
    exact h2 rfl
   ·rw [if_neg (by simp),if_pos (by simp [v1])]
    rw [if_pos ⟨hb,hr⟩] at h1
    exact h1 rfl
  ·rw [if_pos (by rfl)]
   rw [if_neg (by rw [hb]; simp)] at h2
   exact h2 rfl
 ·have es:szZ z=8:=by unfold szZ; rw [if_neg v1]
  rw [es,if_neg v1] at h1
  rw [es] at h2
  rw [if_neg (by simpa using v1)]
  refine tPart z hz 8 (.inr rfl) (fun hb=>?_) (fun hb l o f=>?_)
  ·rw [if_neg (by simp)]
   refine sRight z hz ?_
   cases hr:zoneRight z
   ·rw [if_pos (by rfl)]
    rw [if_neg (by rw [hr]; simp)] at h2
    exact h2 rfl
   ·rw [if_neg (by simp),if_neg (by simpa using v1)]
    rw [if_pos ⟨hb,hr⟩] at h1
    have h1:=h1 rfl
    have hc:=right_count hr
    have hv:=(count_ok hc).v
    have hft:=hz.ft
    have hbl:=blockB_le z hz 8 (.inr rfl)
    refine tHeadEncode ⟨z.v,0,0,0,0,1,1⟩ (fun q f=>?_) (fun q=>by rw [hd1_ok hv] at q; cases q)
    have e10:ByteArray.mk #[(10:UInt8)]=S [10]:=rfl
    rw [e10,S_size,S_append,S_size,S_append,if_neg (by omega),if_neg (by simp; omega)]
    simp only [lt]
    rw [bytesV_S]
    have hgo:∀ (r:Int),r=7→(if (0:Int)≤r∧r≤r∧r≤4294967296 then Xq09 [V.sl 1 false (B8 (headE ⟨z.v,0,0,0,0,1,1⟩)),V.sl 1 false (List.replicate (Int.toNat r) (Eng.ofVal (Value.int IntKind.u8 (0:Int)))),V.sl 1 false (B8 (partR z 8)),V.sl 1 false (B8 ([10]++z.ft++[10]))] (fun a b c=>K true a b c) else False):=fun r hr7=>by
     subst hr7
     rw [if_pos (by decide)]
     refine tConcat [headE ⟨z.v,0,0,0,0,1,1⟩,List.replicate 7 0,partR z 8,[10]++z.ft++[10]] (by simp) (fun a ha=>?_) fun f3 hf3=>?_
     ·simp only [List.mem_cons,List.not_mem_nil,or_false] at ha
      rcases ha with rfl | rfl | rfl | rfl
      ·rw [headE_len]; omega
      ·rw [List.length_replicate]; omega
      ·rw [part_len]; omega
      ·simp; omega
     ·have e:[headE ⟨z.v,0,0,0,0,1,1⟩,List.replicate 7 0,partR z 8,[10]++z.ft++[10]].flatten=headE ⟨z.v,0,0,0,0,1,1⟩++(List.replicate 7 0++(partR z 8++(10 :: (z.ft++[10])))):=by simp
      have hne:[headE ⟨z.v,0,0,0,0,1,1⟩,List.replicate 7 0,partR z 8,[10]++z.ft++[10]].flatten≠[]:=fun w=>by
       have:=congrArg List.length w
       rw [e,List.length_append,headE_len] at this; simp at this
      rw [hf3 hne,e]
      exact h1
    have hsz:∀ {Q:Int→Prop},Q 7→Xq3v (tupHd ⟨z.v,0,0,0,0,1,1⟩) ((4:Nat):Int) Q:=fun {Q} hQ=>by
     refine tSize _ 4 (.inl rfl) ?_
     rw [size_hd1 hv]; exact hQ
    refine ⟨hsz (Q:=fun r=>_) ?_,hsz (Q:=fun r=>_) ?_⟩
    ·exact ⟨hgo 7 rfl,hgo 7 rfl⟩
    ·exact hgo 7 rfl
  ·rw [if_pos (by rfl)]
   rw [if_neg (by rw [hb]; simp)] at h2
   exact h2 rfl
end Go.Proofs.YtbnpclndiichcaaGreatDoor
end
section
set_option linter.unusedVariables false
set_option linter.unusedSimpArgs false
namespace Go.Proofs.YtbnpclndiichcaaGreatDoor
open Go Go.Proofs.YtbnpclndiichcaaGreatDoor.Eng Go.Proofs.YtbnpclndiichcaaGreatDoor.Pl
set_option maxRecDepth 100000
set_option maxHeartbeats 4000000
theorem fits_i64 {k:Nat} (hk:k=1∨k=4∨k=8) {n:Int} (h:fits k n=true):i64r n:=by
 unfold fits at h
 unfold i64r
 rcases hk with rfl | rfl | rfl
 ·rw [if_pos rfl,decide_eq_true_eq] at h; omega
 ·rw [if_neg (by decide),decide_eq_true_eq] at h
  simp only [show ((256:Int) ^ 4)=4294967296 by decide] at h; omega
 ·rw [if_neg (by decide),decide_eq_true_eq] at h
  simp only [show ((256:Int) ^ 8)=18446744073709551616 by decide] at h; omega
theorem abbrAt_len (p:List UInt8) (a:Int):(abbrAt p a).1.length≤16:=by
 unfold abbrAt
 split
 ·rename_i q
  have:=q.2.2.2
  unfold abbrL at this
  simp only [Bool.and_eq_true,decide_eq_true_eq] at this
  exact this.1.2
 ·simp
theorem zi_block {h:Hd} {b:List UInt8} {k:Nat} (hd:(blockD h b k).2=true) (f:List UInt8) (hf:f.length≤5000):ZI { (blockD h b k).1 with ft:=f }:=by
 unfold blockD at hd ⊢
 split at hd
 ·rename_i q
  rw [if_pos q]
  obtain ⟨q1,q2,q3⟩:=q
  obtain ⟨s1,s2,s3⟩:=size_sum q1
  have o:=head_ok s1
  have hk3:k=1∨k=4∨k=8:=.inr s2
  have hl:b.length=oUt h k+h.ut.toNat:=by omega
  have o1:oTy h k=k * h.tr.toNat+h.tr.toNat:=by unfold oTy; rw [Nat.add_mul]; omega
  have o2:oCh h k=oTy h k+6 * h.ty.toNat:=rfl
  have o3:oLp h k=oCh h k+h.ch.toNat:=rfl
  have o4:oSd h k=oLp h k+(k+4) * h.lp.toNat:=rfl
  have o5:oUt h k=oSd h k+h.sd.toNat:=rfl
  have hty:=o.ty
  have htr:=o.tr
  have hlp:=o.lp
  have hv:=o.v
  refine ⟨?_,?_,?_,hf,?_,?_,?_,⟨by show -9223372036854775808≤h.v; omega,by show h.v≤9223372036854775807; omega⟩⟩
  ·show (List.map _ (tysD h b k)).length≤100
   rw [List.length_map]; unfold tysD; rw [tyD_len]; omega
  ·show ((secD k h.tr.toNat b).zip (secD 1 h.tr.toNat (b.drop (k * h.tr.toNat)))).length≤2000
   rw [List.length_zip,secD_len,secD_len]; omega
  ·show (lpD k h.lp.toNat (b.drop (oLp h k))).length≤300
   rw [lpD_len]; omega
  ·intro t ht
   obtain ⟨x,hx,rfl⟩:=List.mem_map.1 (show t∈(tysD h b k).map _ from ht)
   have:=abbrAt_len (chD h b k) x.2.2
   show (abbrAt (chD h b k) x.2.2).1.length≤100
   omega
  ·intro c hc
   have:=lpD_fits hk3 _ _ (by rw [List.length_drop]; omega) c hc
   exact ⟨fits_i64 hk3 this.1,fits_i64 (.inr (.inl rfl)) this.2⟩
  ·intro c hc
   obtain ⟨m1,m2⟩:=zip_mem (x:=c) hc
   exact ⟨fits_i64 hk3 (secD_fits hk3 _ _ (by omega) _ m1),fits_i64 (.inl rfl) (secD_fits (.inl rfl) _ _ (by rw [List.length_drop]; omega) _ m2)⟩
 ·cases hd
theorem zi_read {b:List UInt8} (hb:b.length≤5000) (h:(readD b).2=true):ZI (readD b).1:=by
 unfold readD at h ⊢
 by_cases h1:cutOk b 4=true
 ·rw [if_pos h1] at h ⊢
  by_cases hv:(headD b).1.v=1
  ·rw [if_pos hv] at h ⊢
   split at h
   ·rename_i q
    rw [if_pos q]
    have e:(blockD (headD b).1 (cutA b 4) 4).1.ft.length≤5000:=by
     have w:=q.1
     unfold blockD at w ⊢
     split at w
     ·rename_i w2; rw [if_pos w2]; show ([]:List UInt8).length≤5000; simp
     ·cases w
    exact zi_block q.1 _ e
   ·cases h
  ·rw [if_neg hv] at h ⊢
   split at h
   ·rename_i q
    rw [if_pos q]
    refine zi_block q.2.2.1 _ ?_
    rw [List.length_dropLast,List.length_tail]
    have:=cutB_len (cutB b 4) 8
    have:=cutB_len b 4
    omega
   ·cases h
 ·rw [if_neg h1] at h; cases h
theorem plain_TV (l:List Ty):Eng.plainL (TV l)=true:=by
 simp [Eng.plainL,TV,eTy,V.cells,Eng.isC0]
theorem plain_RV (l:List Rec):Eng.plainL (RV l)=true:=by
 simp [Eng.plainL,RV,eRec,V.cells,Eng.isC0]
def okR (f:Bool) (l:List V):Prop:=((!f || List.isEmpty l) && Eng.plainL l)=true
theorem tDecode (b:List UInt8) (hb:b.length≤1000000) (hz:(readD b).2=true→ZI (readD b).1) {K:Unit×Unit×Unit×ByteArray×Int×Unit→Int→List V→Bool→Bool→List V→Bool→Bool→List V→Bool→Bool→Prop}
  (h:∀ o1 f1 o2 f2 o3 f3,okR f1 (TV (decR b).1.ty)→okR f2 (RV (decR b).1.tr)→okR f3 (RV (decR b).1.lp)→K ((),(),(),S (decR b).1.ft,(decR b).1.v,()) (decR b).2 (TV (decR b).1.ty) o1 f1 (RV (decR b).1.tr) o2 f2 (RV (decR b).1.lp) o3 f3):Xq33 (B8 b) K:=by
 unfold Xq33 Yq33
 unfold decR at h
 refine tRead b (by omega) (fun q=>?_) (fun q z x1 x2 x3 x4 x5 x6 x7 x8 x9=>?_)
 ·rw [if_neg (by simp)]
  rw [if_pos q] at h
  show Xq34 (tupZ (readD b).1) _
  refine sRight _ (hz q) ?_
  cases hr:zoneRight (readD b).1
  ·rw [if_pos (show (!false)=true from rfl)]
   rw [if_neg (by rw [hr]; simp)] at h
   exact h true true true true true true rfl rfl rfl
  ·rw [if_neg (by simp)]
   rw [if_pos hr] at h
   exact h true false true false true false (by unfold okR; rw [plain_TV]; rfl) (by unfold okR; rw [plain_RV]; rfl) (by unfold okR; rw [plain_RV]; rfl)
 ·rw [if_pos (show (!false)=true from rfl)]
  rw [if_neg (by rw [q]; simp)] at h
  exact h true true true true true true rfl rfl rfl
theorem tRight (b:List UInt8) (hb:b.length≤1000000) (hz:(readD b).2=true→ZI (readD b).1) {K:Bool→Prop} (h:K ((decR b).2 == 0)):Xq3f (B8 b) K:=by
 unfold Xq3f Yq3f
 refine tDecode b hb hz fun o1 f1 o2 f2 o3 f3 c1 c2 c3=>?_
 unfold okR at c1 c2 c3
 rw [if_pos c1,if_pos c2,if_pos c3]
 exact h
end Go.Proofs.YtbnpclndiichcaaGreatDoor
end
section
set_option linter.unusedVariables false
set_option linter.unusedSimpArgs false
namespace Go.Proofs.YtbnpclndiichcaaGreatDoor
open Go Go.Proofs.YtbnpclndiichcaaGreatDoor.Eng Go.Proofs.YtbnpclndiichcaaGreatDoor.Pl
set_option maxRecDepth 100000
set_option maxHeartbeats 4000000
theorem tSame12 (a b:List Rec) (hl:a.length≤100000) {K:Bool→Prop} (h:K (a == b)):Xq1z (RV a) (RV b) K:=by
 unfold Xq1z Yq1z
 rw [RV_len,RV_len]
 by_cases e:a.length=b.length
 ·rw [if_neg (by simp [e])]
  refine lp_ind (fun x=>a.length - x.1.2.2.2.1.toNat) (fun x=>∃ j:Nat,j≤a.length∧x=((RV a,RV b,false,(j:Int),()),())∧a.take j=b.take j) ?_ ⟨0,by omega,rfl,rfl⟩
  rintro x ⟨j,hj,rfl,hall⟩ k hk
  unfold Lq1z_0
  simp only [decide_eq_true_eq,RV_len]
  by_cases ej:j=a.length
  ·rw [if_neg (by omega)]
   rw [ej,List.take_length,e,List.take_length] at hall
   have:(a == b)=true:=by rw [hall]; exact beq_self_eq_true _
   rw [this] at h; exact h
  ·have h1:j < a.length:=by omega
   have h2:j < b.length:=by omega
   rw [Int.toNat_natCast,if_pos (by omega),if_pos (by omega)]
   refine asR1 h1 (asR2 h1 ?_)
   rw [if_pos (by omega)]
   refine asR1 h2 (asR2 h2 ?_)
   have e1:w64 ((j:Int)+1)=((j+1:Nat):Int):=by rw [w64_in (by omega) (by omega)]; omega
   simp only [e1]
   by_cases ee:a[j]=b[j]
   ·rw [if_neg (by rw [ee]; simp)]
    refine hk _ ⟨j+1,by omega,rfl,?_⟩ ?_
    ·rw [List.take_succ_eq_append_getElem h1,List.take_succ_eq_append_getElem h2,hall,ee]
    ·show a.length - ((j+1:Nat):Int).toNat < a.length - ((j:Nat):Int).toNat
     omega
   ·rw [if_pos (by
     simp only [Bool.not_eq_true',Bool.and_true,Bool.and_eq_false_iff,beq_eq_false_iff_ne,ne_eq]
     by_cases q:(a[j]).1=(b[j]).1
     ·exact .inr fun q2=>ee (Prod.ext q q2)
     ·exact .inl q)]
    have:(a == b)=false:=by
     rw [beq_eq_false_iff_ne]; intro hh; subst hh; exact ee rfl
    rw [this] at h; exact h
 ·rw [if_pos (by simp; omega)]
  have:(a == b)=false:=by
   rw [beq_eq_false_iff_ne]; intro hh; exact e (by rw [hh])
  rw [this] at h; exact h
theorem tSame16 (a b:Zn) (h1:a.ty.length≤100000) (h2:a.tr.length≤100000) (h3:a.lp.length≤100000) {K:Bool→Prop} (h:K (sameZ a b)):Xq22 (tupZ a) (tupZ b) K:=by
 show Xq22 (TV a.ty,RV a.tr,RV a.lp,S a.ft,a.v,()) (TV b.ty,RV b.tr,RV b.lp,S b.ft,b.v,()) K
 unfold Xq22 Yq22
 dsimp only
 rw [TV_len,TV_len,RV_len,RV_len,S_toList,S_toList]
 have no:(a.ty≠b.ty∨a.tr≠b.tr∨a.ft≠b.ft∨a.v≠b.v)→K false:=fun hn=>by
  have:sameZ a b=false:=by
   unfold sameZ
   simp only [Bool.and_eq_false_iff,beq_eq_false_iff_ne]
   rcases hn with hn | hn | hn | hn
   ·exact .inl (.inl (.inl (.inl hn)))
   ·exact .inl (.inl (.inl (.inr hn)))
   ·exact .inl (.inr hn)
   ·exact .inr hn
  rw [this] at h; exact h
 by_cases e1:a.ty.length=b.ty.length
 ·rw [if_neg (by simp [e1])]
  by_cases e2:a.tr.length=b.tr.length
  ·rw [if_neg (by simp [e2])]
   by_cases e3:a.ft=b.ft
   ·rw [if_neg (by simp [e3])]
    by_cases e4:a.v=b.v
    ·rw [if_neg (by simp [e4])]
     refine lp_ind (fun x=>a.ty.length - x.1.2.2.2.1.toNat) (fun x=>∃ j:Nat,j≤a.ty.length∧x=(((),(),false,(j:Int),()),(TV a.ty,RV a.tr,RV a.lp,S a.ft,a.v,()),(TV b.ty,RV b.tr,RV b.lp,S b.ft,b.v,()),())∧a.ty.take j=b.ty.take j) ?_ ⟨0,by omega,rfl,rfl⟩
     rintro x ⟨j,hj,rfl,hall⟩ k hk
     unfold Lq22_0
     dsimp only
     rw [TV_len,TV_len,Int.toNat_natCast]
     by_cases ej:j=a.ty.length
     ·rw [if_neg (dneg (by omega))]
      rw [ej,List.take_length,e1,List.take_length] at hall
      refine lp_ind (fun x=>a.tr.length - x.1.2.2.2.1.toNat) (fun x=>∃ j:Nat,j≤a.tr.length∧x=(((),(),false,(j:Int),()),(TV a.ty,RV a.tr,RV a.lp,S a.ft,a.v,()),(TV b.ty,RV b.tr,RV b.lp,S b.ft,b.v,()),())∧a.tr.take j=b.tr.take j) ?_ ⟨0,by omega,rfl,rfl⟩
      rintro x ⟨i,hi,rfl,hall2⟩ k2 hk2
      unfold Lq22_1
      dsimp only
      rw [RV_len,RV_len,Int.toNat_natCast]
      by_cases ei:i=a.tr.length
      ·rw [if_neg (dneg (by omega))]
       rw [ei,List.take_length,e2,List.take_length] at hall2
       refine tSame12 a.lp b.lp h3 ?_
       have:sameZ a b=(a.lp == b.lp):=by unfold sameZ; rw [hall,hall2,e3,e4]; simp
       rw [this] at h; exact h
      ·have h1:i < a.tr.length:=by omega
       have h2:i < b.tr.length:=by omega
       rw [if_pos (decide_eq_true (by omega)),if_pos (by omega)]
       refine asR1 h1 (asR2 h1 ?_)
       rw [if_pos (by omega)]
       refine asR1 h2 (asR2 h2 ?_)
       have e1:w64 ((i:Int)+1)=((i+1:Nat):Int):=by rw [w64_in (by omega) (by omega)]; omega
       simp only [e1]
       by_cases ee:a.tr[i]=b.tr[i]
       ·rw [if_neg (by rw [ee]; simp)]
        refine hk2 _ ⟨i+1,by omega,rfl,?_⟩ ?_
        ·rw [List.take_succ_eq_append_getElem h1,List.take_succ_eq_append_getElem h2,hall2,ee]
        ·show a.tr.length - ((i+1:Nat):Int).toNat < a.tr.length - ((i:Nat):Int).toNat
         omega
       ·rw [if_pos (by
         simp only [Bool.not_eq_true',Bool.and_true,Bool.and_eq_false_iff,beq_eq_false_iff_ne,ne_eq]
         by_cases q:(a.tr[i]).1=(b.tr[i]).1
         ·exact .inr fun q2=>ee (Prod.ext q q2)
         ·exact .inl q)]
        refine no (.inr (.inl fun hh=>?_))
        have:=congrArg (fun l=>l[i]?) hh
        simp only [List.getElem?_eq_getElem h1,List.getElem?_eq_getElem h2] at this
        exact ee (Option.some.inj this)
     ·have h1:j < a.ty.length:=by omega
      have h2:j < b.ty.length:=by omega
      rw [if_pos (decide_eq_true (by omega)),if_pos (by omega)]
      refine asT1 h1 (asT2 h1 (asT3 h1 ?_))
      rw [if_pos (by omega)]
      refine asT1 h2 (asT2 h2 (asT3 h2 ?_))
      have e1:w64 ((j:Int)+1)=((j+1:Nat):Int):=by rw [w64_in (by omega) (by omega)]; omega
      simp only [lt,e1,S_toList]
      by_cases ee:a.ty[j]=b.ty[j]
      ·rw [if_neg (by rw [ee]; simp)]
       refine hk _ ⟨j+1,by omega,rfl,?_⟩ ?_
       ·rw [List.take_succ_eq_append_getElem h1,List.take_succ_eq_append_getElem h2,hall,ee]
       ·show a.ty.length - ((j+1:Nat):Int).toNat < a.ty.length - ((j:Nat):Int).toNat
        omega
      ·have:(!((a.ty[j]).1 == (b.ty[j]).1 && ((a.ty[j]).2.1 == (b.ty[j]).2.1 && ((a.ty[j]).2.2 == (b.ty[j]).2.2 && true))))=true:=by
        rw [Bool.not_eq_true']
        cases hh:((a.ty[j]).1 == (b.ty[j]).1 && ((a.ty[j]).2.1 == (b.ty[j]).2.1 && ((a.ty[j]).2.2 == (b.ty[j]).2.2 && true)))
        ·rfl
        ·exfalso
         simp only [Bool.and_eq_true,beq_iff_eq,and_true] at hh
         exact ee (Prod.ext hh.1 (Prod.ext hh.2.1 hh.2.2))
       rw [if_pos this]
       refine no (.inl fun hh=>?_)
       have:=congrArg (fun l=>l[j]?) hh
       simp only [List.getElem?_eq_getElem h1,List.getElem?_eq_getElem h2] at this
       exact ee (Option.some.inj this)
    ·rw [if_pos (by simpa using e4)]; exact no (.inr (.inr (.inr e4)))
   ·rw [if_pos (by simpa using e3)]; exact no (.inr (.inr (.inl e3)))
  ·rw [if_pos (by simp; omega)]; exact no (.inr (.inl fun hh=>e2 (by rw [hh])))
 ·rw [if_pos (by simp; omega)]; exact no (.inl fun hh=>e1 (by rw [hh]))
theorem okr {f:Bool} {l:List V} (h:okR f l):((!f || List.isEmpty l) && Eng.plainL l)=true:=h
theorem B8_set' (l:List UInt8) (i:Nat) (h:i < l.length) (x:UInt8):List.set (B8 l) i (Eng.setE (List.getD (B8 l) i Eng.V.bad) 0 [.c (.int .u8 (x.toNat:Int))])=B8 (l.set i x):=by
 have:List.getD (B8 l) i Eng.V.bad = .c (.int .u8 (l[i].toNat:Int)):=by simp [B8,List.getD,h]
 rw [this]
 show List.set (B8 l) i (.c (.int .u8 (x.toNat:Int)))=_
 simp [B8,List.map_set]
theorem enc_len_le (z:Zn) (hz:ZI z):(encR z).1.length≤200000:=by
 unfold encR
 split
 ·split
  ·rw [part_len]; have:=blockB_le z hz 4 (.inl rfl); omega
  ·simp only [List.length_append,headE_len,List.length_replicate,part_len,List.length_cons,List.length_nil]
   have:=blockB_le z hz 8 (.inr rfl); have:=hz.ft; omega
 ·simp
theorem zi_enc {z:Zn} (hz:ZI z) (h:(encR z).2=true):(readD (encR z).1).2=true→ZI (readD (encR z).1).1:=fun _=>by rw [enc_read h]; exact hz
theorem iz20:ZI z20:=⟨by decide,by decide,by decide,by decide,by decide,(fun c hc=>by cases hc),(fun c hc=>by cases hc),by decide⟩
theorem iy20:ZI y20:=⟨by decide,by decide,by decide,by decide,by decide,(fun c hc=>by cases hc),(fun c hc=>by cases hc),by decide⟩
theorem iw20:ZI w20:=⟨by decide,by decide,by decide,by decide,by decide,(fun c hc=>by cases hc),(fun c hc=>by cases hc),by decide⟩
theorem in0:ZI zn0:=⟨by decide,by decide,by decide,by decide,by decide,(fun c hc=>by cases hc),(fun c hc=>by cases hc),by decide⟩
theorem tsmall20 {K:Bool→Prop} (h:K true):Xq1o K:=by
 unfold Xq1o Yq1o
 have L:=z20_len
 have dz:=enc_dec z20_ok
 have dy:=enc_dec y20_ok
 have m10:=enc_more z20_ok (t:=[10]) (by simp)
 have iv:(readD ((encR z20).1.set 107 33)).2=true→ZI (readD ((encR z20).1.set 107 33)).1:=fun _=>by
  rw [v20_read]
  exact ⟨by decide,by decide,by decide,by decide,by decide,(fun c hc=>by cases hc),(fun c hc=>by cases hc),by decide⟩
 have z10:=zi_enc iz20 z20_ok
 have y10:=zi_enc iy20 y20_ok
 have dv:=v20_dec
 have s1:sameZ z20 z20=true:=by decide
 have s2:sameZ y20 y20=true:=by decide
 have dm:=dec_two (b:=(encR z20).1++[10]) (by rw [m10])
 have dn:=dec_two nil_two
 have eA:B8 (encR z20).1++[V.c (Value.int IntKind.u8 10)]=B8 ((encR z20).1++[10]):=B8_app _ [10]
 have l1:¬ (((B8 (encR z20).1).length:Int) != 111)=true:=by rw [B8_len,z20_len]; decide
 have l2:¬ (((B8 (encR y20).1).length:Int) != 54)=true:=by rw [B8_len,y20_len]; decide
 have l3:(0:Int)≤107∧(107:Int) < ((B8 (encR z20).1).length:Int):=by rw [B8_len,z20_len]; decide
 have l4:107 < (B8 ((encR z20).1++[10])).length:=by rw [B8_len,List.length_append,z20_len]; decide
 have l5:107 < (B8 (encR z20).1).length:=by rw [B8_len,z20_len]; decide
 have es1:List.set (B8 ((encR z20).1++[10])) 107 (Eng.setE (List.getD (B8 ((encR z20).1++[10])) 107 Eng.V.bad) 0 [V.c (Value.int IntKind.u8 33)])=B8 (((encR z20).1++[10]).set 107 33):=B8_set' _ 107 (by rw [List.length_append,z20_len]; decide) 33
 have es2:List.set (B8 (encR z20).1) 107 (Eng.setE (List.getD (B8 (encR z20).1) 107 Eng.V.bad) 0 [V.c (Value.int IntKind.u8 33)])=B8 ((encR z20).1.set 107 33):=B8_set' _ 107 (by rw [z20_len]; decide) 33
 have ec:cutL (B8 (((encR z20).1++[10]).set 107 33)) 0 (B8 (encR z20).1).length=B8 ((encR z20).1.set 107 33):=by
  rw [B8_cut,B8_len,z20_len]
  have:((((encR z20).1++[10]).set 107 33).drop 0).take 111=(encR z20).1.set 107 33:=by decide
  rw [this]
 refine tTzEncode z20 iz20 (fun _=>?_) (fun q=>by rw [z20_ok] at q; cases q)
 refine tDecode (encR z20).1 (by rw [z20_len]; decide) z10 fun o1 f1 o2 f2 o3 f3 c1 c2 c3=>?_
 rw [if_pos (okr c1),if_pos (okr c2),if_pos (okr c3)]
 rw [dz]
 rw [if_pos rfl,if_pos (room1 _ (by rw [B8_len,z20_len]; decide)),eA]
 refine ⟨?_,?_⟩
 ·refine tDecode ((encR z20).1++[10]) (by rw [List.length_append,z20_len]; decide) (fun q=>by rw [m10] at q; cases q) fun o1 f1 o2 f2 o3 f3 c1 c2 c3=>?_
  rw [if_pos (okr c1),if_pos (okr c2),if_pos (okr c3)]
  rw [dm]
  refine tDecode [] (by decide) (fun q=>by rw [nil_two] at q; cases q) fun o1 f1 o2 f2 o3 f3 c1 c2 c3=>?_
  rw [if_pos (okr c1),if_pos (okr c2),if_pos (okr c3)]
  rw [dn]
  refine tTzEncode y20 iy20 (fun _=>?_) (fun q=>by rw [y20_ok] at q; cases q)
  refine tDecode (encR y20).1 (by rw [y20_len]; decide) y10 fun o1 f1 o2 f2 o3 f3 c1 c2 c3=>?_
  rw [if_pos (okr c1),if_pos (okr c2),if_pos (okr c3)]
  rw [dy]
  refine tTzEncode zn0 in0 (fun q=>by rw [n20_no] at q; cases q) (fun _=>?_)
  refine tTzEncode w20 iw20 (fun q=>by rw [w20_no] at q; cases q) (fun _=>?_)
  rw [if_neg l1,if_neg l2,if_pos l3,if_pos rfl]
  rw [if_pos l4]
  unfold Eng.lt
  rw [es1]
  dsimp only
  rw [ec]
  refine tDecode ((encR z20).1.set 107 33) (by rw [List.length_set,z20_len]; decide) iv fun o1 f1 o2 f2 o3 f3 c1 c2 c3=>?_
  rw [if_pos (okr c1),if_pos (okr c2),if_pos (okr c3)]
  rw [dv]
  rw [if_pos rfl,if_pos (by rfl)]
  refine tSame16 z20 z20 (by decide) (by decide) (by decide) ?_
  rw [s1,if_pos rfl,if_pos (by rfl),if_pos (by rfl),if_pos rfl,if_pos (by rfl)]
  refine tSame16 y20 y20 (by decide) (by decide) (by decide) ?_
  rw [s2,if_pos rfl,if_pos (by rfl),if_pos (by rfl),if_pos (by rfl)]
  refine tRight ((encR z20).1.set 107 33) (by rw [List.length_set,z20_len]; decide) iv ?_
  rw [dv,if_pos (by rfl)]
  refine tRight (encR y20).1 (by rw [y20_len]; decide) y10 ?_
  rw [dy]
  exact h
 ·refine tDecode ((encR z20).1++[10]) (by rw [List.length_append,z20_len]; decide) (fun q=>by rw [m10] at q; cases q) fun o1 f1 o2 f2 o3 f3 c1 c2 c3=>?_
  rw [if_pos (okr c1),if_pos (okr c2),if_pos (okr c3)]
  rw [dm]
  refine tDecode [] (by decide) (fun q=>by rw [nil_two] at q; cases q) fun o1 f1 o2 f2 o3 f3 c1 c2 c3=>?_
  rw [if_pos (okr c1),if_pos (okr c2),if_pos (okr c3)]
  rw [dn]
  refine tTzEncode y20 iy20 (fun _=>?_) (fun q=>by rw [y20_ok] at q; cases q)
  refine tDecode (encR y20).1 (by rw [y20_len]; decide) y10 fun o1 f1 o2 f2 o3 f3 c1 c2 c3=>?_
  rw [if_pos (okr c1),if_pos (okr c2),if_pos (okr c3)]
  rw [dy]
  refine tTzEncode zn0 in0 (fun q=>by rw [n20_no] at q; cases q) (fun _=>?_)
  refine tTzEncode w20 iw20 (fun q=>by rw [w20_no] at q; cases q) (fun _=>?_)
  rw [if_neg l1,if_neg l2,if_pos l3,if_pos rfl]
  rw [if_pos l5,es2]
  refine tDecode ((encR z20).1.set 107 33) (by rw [List.length_set,z20_len]; decide) iv fun o1 f1 o2 f2 o3 f3 c1 c2 c3=>?_
  rw [if_pos (okr c1),if_pos (okr c2),if_pos (okr c3)]
  rw [dv]
  rw [if_pos rfl,if_pos (by rfl)]
  refine tSame16 z20 z20 (by decide) (by decide) (by decide) ?_
  rw [s1,if_pos rfl,if_pos (by rfl),if_pos (by rfl),if_pos rfl,if_pos (by rfl)]
  refine tSame16 y20 y20 (by decide) (by decide) (by decide) ?_
  rw [s2,if_pos rfl,if_pos (by rfl),if_pos (by rfl),if_pos (by rfl)]
  refine tRight ((encR z20).1.set 107 33) (by rw [List.length_set,z20_len]; decide) iv ?_
  rw [dv,if_pos (by rfl)]
  refine tRight (encR y20).1 (by rw [y20_len]; decide) y10 ?_
  rw [dy]
  exact h
end Go.Proofs.YtbnpclndiichcaaGreatDoor
end
section
set_option linter.unusedVariables false
set_option linter.unusedSimpArgs false
namespace Go.Proofs.YtbnpclndiichcaaGreatDoor
open Go Go.Proofs.YtbnpclndiichcaaGreatDoor.Eng Go.Proofs.YtbnpclndiichcaaGreatDoor.Pl
set_option maxRecDepth 100000
set_option maxHeartbeats 4000000
theorem sameZ_me (z:Zn):sameZ z z=true:=by unfold sameZ; simp
end Go.Proofs.YtbnpclndiichcaaGreatDoor
end
section
set_option linter.unusedVariables false
set_option linter.unusedSimpArgs false
namespace Go.Proofs.YtbnpclndiichcaaGreatDoor
open Go Go.Proofs.YtbnpclndiichcaaGreatDoor.Eng Go.Proofs.YtbnpclndiichcaaGreatDoor.Pl
set_option maxRecDepth 100000
set_option maxHeartbeats 4000000
theorem b8_of (a:List Int) (h:∀ x∈a,(Lit.int .u8 x).wf=true):∃ l:List UInt8,(a.map fun x=>V.c (.int .u8 x))=B8 l:=by
 refine ⟨a.map fun x=>UInt8.ofNat x.toNat,?_⟩
 unfold B8
 rw [List.map_map]
 refine List.map_congr_left fun x hx=>?_
 have:=h x hx
 simp [Lit.wf,IntKind.min,IntKind.max,IntKind.bits,IntKind.signed] at this
 have e:((UInt8.ofNat x.toNat).toNat:Int)=x:=by
  rw [UInt8.toNat_ofNat',Nat.mod_eq_of_lt (by omega)]; omega
 simp only [Function.comp_apply]
 rw [e]
end Go.Proofs.YtbnpclndiichcaaGreatDoor
end
section
set_option linter.unusedVariables false
set_option linter.unusedSimpArgs false
namespace Go.Proofs.YtbnpclndiichcaaGreatDoor
open Go Go.Proofs.YtbnpclndiichcaaGreatDoor.Eng Go.Proofs.YtbnpclndiichcaaGreatDoor.Pl
theorem rruleRight (k a b c x:Int) {K} (h:K (rightR k a b c x)):Xq1n (k,a,b,c,x,()) K:=by
 unfold Xq1n Yq1n
 simp only [beq_iff_eq,decide_eq_true_eq,gt_iff_lt,ge_iff_le]
 have fin:∀ z:Bool,(z=true↔((-604799≤x∧x≤604799)∧((k=0∧1≤a∧a≤12∧1≤b∧b≤5∧0≤c∧c≤6)∨(k=1∧1≤a∧a≤365∧b=0∧c=0)∨(k=2∧0≤a∧a≤365∧b=0∧c=0))))→K z:=fun z hz =>
  cast (congrArg K (Bool.eq_iff_iff.2 ((right_iff k a b c x).trans hz.symm))) h
 clear h
 repeat' (first | refine ifC (fun _=>?_) (fun _=>?_) | refine fin _ ?_)
 all_goals (simp only [decide_eq_true_eq,Bool.false_eq_true,false_iff,beq_iff_eq]; omega)
theorem wu8_in {n:Int} (h0:0≤n) (h1:n≤255):wu8 n=n:=by
 simp only [wu8,IntKind.wrap,IntKind.bits,IntKind.signed]
 try simp
 try omega
theorem rtwo (l:List UInt8) {K} (h:K (if (sixtyL l).2.2=true then (sixtyL l).1 else -1) (S (sixtyL l).2.1)):Xq2e (S l) K:=by
 unfold Xq2e Yq2e
 simp only [S_size,S_extract,decide_eq_true_eq,gt_iff_lt,bne_iff_ne,ne_eq]
 match l,h with
 | [],h=>exact ifT (by simp) h
 | [_],h=>exact ifT (by simp) h
 | [_,_],h=>exact ifT (by simp) h
 | c :: a :: b :: r,h =>
  have hlen:(c :: a :: b :: r).length=r.length+3:=rfl
  rw [hlen,bAt0,bAt1,bAt2]
  obtain ⟨p,hp⟩:∃ p,p=sixtyL (c :: a :: b :: r):=⟨_,rfl⟩
  rw [← hp] at h
  refine ifF (by omega) (ifT (by omega) ?_)
  by_cases hh:c=58∧isDig a=true∧isDig b=true∧a.toNat≤53
  ·rw [sixty_yes hh] at hp
   subst hp
   obtain ⟨rfl,ha,hb,h5⟩:=hh
   unfold isDig at ha hb
   simp at ha hb
   refine ifF (by decide) (ifT (by omega) (ifF (by omega) (ifT (by omega) (ifF (by omega) (ifT (by omega) (ifF (by omega) (ifT (by omega) (ifF (by omega) (ifT (by omega) ?_)))))))))
   simp only [lt]
   refine ifT (by omega) ?_
   rw [wu8_in (by omega) (by omega),wu8_in (by omega) (by omega)]
   simp (disch:=omega) only [w64_in]
   refine ifT (by omega) (ifT (by omega) ?_)
   have e3:((58 :: a :: b :: r).drop 3).take (Int.toNat ((r.length+3:Nat):Int) - 3)=r:=by
    rw [show (58 :: a :: b :: r).drop 3=r from rfl,List.take_of_length_le (by omega)]
   rw [e3]; exact h
  ·rw [sixty_no hh] at hp
   subst hp
   have h':K (-1) (S (c :: a :: b :: r)):=h
   by_cases hc:c=58
   ·subst hc
    have hd:¬ (48≤a.toNat∧a.toNat≤57∧48≤b.toNat∧b.toNat≤57∧a.toNat≤53):=fun hd=>hh ⟨rfl,by unfold isDig; simp; omega,by unfold isDig; simp; omega,hd.2.2.2.2⟩
    refine ifF (by decide) (ifT (by omega) (ifC (fun _=>h') fun _=>ifT (by omega) (ifC (fun _=>h') fun _=>ifT (by omega) (ifC (fun _=>h') fun _=>ifT (by omega) (ifT (by omega) h')))))
   ·exact ifT (fun h=>hc (u8_eq (by
                     have:c.toNat=58:=by omega
                     exact this))) h'
end Go.Proofs.YtbnpclndiichcaaGreatDoor
end
section
set_option linter.unusedVariables false
set_option linter.unusedSimpArgs false
namespace Go.Proofs.YtbnpclndiichcaaGreatDoor
open Go Go.Proofs.YtbnpclndiichcaaGreatDoor.Eng Go.Proofs.YtbnpclndiichcaaGreatDoor.Pl
theorem valL_take_lt (l:List UInt8) (j:Nat) (hj:j≤dl l) (hj4:j≤4):valL (l.take j) < 10000:=by
 have h:=valL_lt _ (take_dl_dig l j hj)
 have hl:(l.take j).length≤4:=by rw [List.length_take]; omega
 have:10 ^ (l.take j).length≤10 ^ 4:=Nat.pow_le_pow_right (by omega) hl
 omega
theorem bAt_get (l:List UInt8) (j:Nat) (h:j < l.length):Eng.bAt (S l) j=(l[j].toNat:Int):=by
 rw [bAt_S]; simp [h]
theorem rnumE (l:List UInt8) (m hi j v:Nat) (hj:j≤l.length) {K:Int→ByteArray→Prop} (h:if j < 1∨m < j∨hi < v then K (-1) (S l) else K (v:Int) (S (l.drop j))) :
  if decide ((j:Int) < (1:Int))=true then K (-1:Int) (S l) else if decide ((j:Int) > (m:Int))=true then K (-1:Int) (S l) else if decide ((v:Int) > (hi:Int))=true then K (-1:Int) (S l) else
   if (0:Int)≤(↑(ByteArray.size (S l)):Int)∧(↑(ByteArray.size (S l)):Int)≤(↑(ByteArray.size (S l)):Int) then
    (if (0:Int)≤(j:Int)∧(j:Int)≤(↑(ByteArray.size (S l)):Int) then K (v:Int) (ByteArray.extract (S l) (Int.toNat (j:Int)) (Int.toNat (↑(ByteArray.size (S l)):Int))) else False) else False:=by
 simp only [decide_eq_true_eq,gt_iff_lt,S_size,S_extract,Int.toNat_natCast,take_all]
 by_cases e:j < 1∨m < j∨hi < v
 ·rw [if_pos e] at h
  exact ifC (fun _=>h) fun _=>ifC (fun _=>h) fun _=>ifT (by omega) h
 ·rw [if_neg e] at h
  exact ifF (by omega) (ifF (by omega) (ifF (by omega) (ifT (by omega) (ifT (by omega) h))))
theorem rnumber (l:List UInt8) (m hi:Nat) (hm:m≤3) (hl:l.length≤140737488351232) {K} (h:K (refNum l m hi).1 (S (refNum l m hi).2)):Xq0x (S l) 1 (m:Int) (hi:Int) K:=by
 unfold Xq0x Yq0x
 have hd:=dl_le l
 have fin:∀ j,j=min (dl l) (m+1)→if j < 1∨m < j∨hi < valL (l.take j) then K (-1) (S l) else K (valL (l.take j):Int) (S (l.drop j)):=by
  intro j hj
  unfold refNum at h
  by_cases e:dl l=0∨m < dl l
  ·rw [if_pos (by omega)] at h
   exact ifT (by omega) h
  ·have:j=dl l:=by omega
   subst this
   by_cases e2:hi < valL (l.take (dl l))
   ·rw [if_pos (by omega)] at h
    exact ifT (by omega) h
   ·rw [if_neg (by omega)] at h
    exact ifF (by omega) h
 refine lp_at (fun j:Nat=>((S l,(1:Int),(m:Int),(hi:Int),(0:Int),ByteArray.mk #[],(valL (l.take j):Int),(j:Int),()),())) (min (dl l) (m+1)) (by simp [valL]) fun j hj k hk=>?_
 unfold Lq0x_0
 have hv:=valL_take_lt l j (by omega) (by omega)
 by_cases hlt:j < min (dl l) (m+1)
 ·have hjl:j < l.length:=by omega
  have hdig:=dl_digit l j (by omega)
  rw [isDig_iff] at hdig
  simp only [S_size,decide_eq_true_eq,ge_iff_le,Int.toNat_natCast,bAt_get l j hjl,lt]
  refine ifT (by omega) (ifT (by omega) (ifT (by omega) (ifT (by omega) (ifT (by omega) (ifT (by omega) (ifT (by omega) ?_))))))
  have:=hk hlt
  rw [take_succ_at l j hjl,valL_snoc] at this
  rw [wu8_in (by omega) (by omega)]
  simp (disch:=omega) only [w64_in]
  refine cast (congrArg k ?_) this
  simp only [Prod.mk.injEq,and_true,true_and]
  omega
 ·have ej:j=min (dl l) (m+1):=by omega
  have hex:=rnumE l m hi j (valL (l.take j)) (by omega) (fin j ej)
  simp only [decide_eq_true_eq,gt_iff_lt,ge_iff_le] at hex ⊢
  by_cases c1:j < l.length
  ·simp only [S_size,Int.toNat_natCast,bAt_get l j c1]
   simp only [S_size,Int.toNat_natCast] at hex
   refine ifT (by omega) (ifT (by omega) ?_)
   by_cases c2:j=m+1
   ·refine ifC (fun _=>ifT (by omega) (ifC (fun _=>ifF (by omega) hex) fun _=>hex)) fun _=>hex
   ·have hj2:j=dl l:=by omega
    subst hj2
    have hs:=dl_stop l c1
    have hs':¬ (48≤l[dl l].toNat∧l[dl l].toNat≤57):=fun h=>by rw [(isDig_iff _).2 h] at hs; cases hs
    refine ifC (fun _=>ifT (by omega) (ifF (by omega) hex)) fun _=>hex
  ·refine ifF (by rw [S_size]; omega) hex
theorem rdot (l:List UInt8) (hl:l.length≤140737488351232) {K} (h:K (refDot l).1 (S (refDot l).2)):Xq2b (S l) K:=by
 unfold Xq2b Yq2b
 simp only [S_size,S_extract,decide_eq_true_eq,bne_iff_ne,ne_eq,Int.toNat_natCast,take_all]
 unfold refDot at h
 cases l with
 | nil=>exact ifT (by simp) h
 | cons c r =>
  rw [bAt0]
  simp only [List.length_cons] at hl ⊢
  refine ifF (by omega) (ifT (by omega) ?_)
  by_cases e:c=46
  ·subst e
   rw [if_pos (show (46 :: r).head? = some 46 from rfl)] at h
   refine ifF (by decide) (ifT (by omega) (ifT (by omega) (rnumber _ 1 9 (by omega) (by simp; omega) ?_)))
   exact h
  ·rw [if_neg (by simpa using e)] at h
   exact ifT (fun h=>e (u8_eq (by
                    have:c.toNat=46:=by omega
                    exact this))) h
theorem refNum_len (l:List UInt8) (m hi:Nat):(refNum l m hi).2.length≤l.length:=by
 unfold refNum; split
 ·exact Nat.le_refl _
 ·simp
theorem refDot_len (l:List UInt8):(refDot l).2.length≤l.length:=by
 unfold refDot; split
 ·have:=refNum_len l.tail 1 9
  rw [List.length_tail] at this; omega
 ·exact Nat.le_refl _
theorem rhead (l:List UInt8) (hl:l.length≤140737488351232) {K} (h:K ((refHead l).1,(refHead l).2.1,(refHead l).2.2.1,(refHead l).2.2.2.1,7200,()) (S (refHead l).2.2.2.2)):Xq20 (S l) K:=by
 unfold Xq20 Yq20
 simp only [S_size,S_extract,decide_eq_true_eq,beq_iff_eq,gt_iff_lt,Int.toNat_natCast,take_all]
 unfold refHead at h
 cases l with
 | nil =>
  simp only [List.length_nil] at hl ⊢
  rw [if_neg (by simp),if_neg (by simp)] at h
  exact ifF (by omega) (ifF (by omega) (rnumber [] 3 365 (by omega) (by simp) h))
 | cons c r =>
  rw [bAt0]
  simp only [List.length_cons] at hl ⊢
  refine ifT (by omega) (ifT (by omega) ?_)
  by_cases e:c=77
  ·subst e
   rw [if_pos (show (77 :: r).head? = some 77 from rfl)] at h
   simp only [List.tail_cons] at h
   have q1:=refNum_len r 2 12
   have q2:=refDot_len (refNum r 2 12).2
   exact ifT (by decide) (ifT (by omega) (ifT (by omega) (rnumber r 2 12 (by omega) (by omega) (rdot _ (by omega) (rdot _ (by omega) h)))))
  ·rw [if_neg (by simpa using e)] at h
   refine ifF (fun h=>e (u8_eq (by
                    have:c.toNat=77:=by omega
                    exact this))) (ifT (by omega) (ifT (by omega) ?_))
   by_cases e2:c=74
   ·subst e2
    rw [if_pos (show (74 :: r).head? = some 74 from rfl)] at h
    simp only [List.tail_cons] at h
    exact ifT (by decide) (ifT (by omega) (ifT (by omega) (rnumber r 3 365 (by omega) (by omega) h)))
   ·rw [if_neg (by simpa using e2)] at h
    exact ifF (fun h=>e2 (u8_eq (by
                     have:c.toNat=74:=by omega
                     exact this))) (rnumber (c :: r) 3 365 (by omega) (by simp; omega) h)
theorem refHead_len (l:List UInt8):(refHead l).2.2.2.2.length≤l.length:=by
 unfold refHead
 have q0:l.tail.length≤l.length:=by rw [List.length_tail]; omega
 have q1:=refNum_len l.tail 2 12
 have q2:=refDot_len (refNum l.tail 2 12).2
 have q3:=refDot_len (refDot (refNum l.tail 2 12).2).2
 have q4:=refNum_len l.tail 3 365
 have q5:=refNum_len l 3 365
 repeat' split
 all_goals (simp only; omega)
theorem rtimeE (l t:List UInt8) (sg:Int) (hsg:sg=1∨sg=-1) (v j:Nat) (hv:v≤167) (hj:j≤t.length) {K:Int→ByteArray→Bool→Prop}
  (h:if j=0 then K 0 (S l) false else K (sg * ((v:Int) * 3600+(sixtyL (t.drop j)).1 * 60+(moreL (sixtyL (t.drop j))).1)) (S (moreL (sixtyL (t.drop j))).2.1) true) :
  if ((j:Int) == (0:Int))=true then K (0:Int) (S l) false else
   if (0:Int)≤(↑(ByteArray.size (S t)):Int)∧(↑(ByteArray.size (S t)):Int)≤(↑(ByteArray.size (S t)):Int) then
    (if (0:Int)≤(j:Int)∧(j:Int)≤(↑(ByteArray.size (S t)):Int) then
     Xq2e (ByteArray.extract (S t) (Int.toNat (j:Int)) (Int.toNat (↑(ByteArray.size (S t)):Int))) (fun r27 r28 =>
      (if decide (r27 < (0:Int))=true then
       (lt (w64 (w64 (sg * (3600:Int)) * (v:Int))) fun v29=>K v29 (ByteArray.extract (S t) (Int.toNat (j:Int)) (Int.toNat (↑(ByteArray.size (S t)):Int))) true)
      else
       Xq2e r28 (fun r30 r31 =>
        (if decide (r30 < (0:Int))=true then
         (lt (w64 (w64 ((3600:Int) * (v:Int))+w64 ((60:Int) * r27))) fun v32=>K (w64 (sg * v32)) r28 true)
        else
         (lt (w64 (w64 ((3600:Int) * (v:Int))+w64 ((60:Int) * r27))) fun v33=>(lt (w64 (sg * w64 (v33+r30))) fun v34=>K v34 r31 true))))))
    else False) else False:=by
 simp only [beq_iff_eq,S_size,S_extract,decide_eq_true_eq,Int.toNat_natCast,take_all,lt]
 by_cases e:j=0
 ·rw [if_pos e] at h
  exact ifT (by omega) h
 ·rw [if_neg e] at h
  refine ifF (by omega) (ifT (by omega) (ifT (by omega) (rtwo _ ?_)))
  have b1:=sixty_bd (t.drop j)
  by_cases e2:(sixtyL (t.drop j)).2.2=true
  ·rw [if_pos e2]
   refine ifF (by omega) (rtwo _ ?_)
   have b2:=sixty_bd (sixtyL (t.drop j)).2.1
   have em:moreL (sixtyL (t.drop j))=sixtyL (sixtyL (t.drop j)).2.1:=by unfold moreL; rw [if_pos e2]
   rw [em] at h
   by_cases e3:(sixtyL (sixtyL (t.drop j)).2.1).2.2=true
   ·rw [if_pos e3]
    refine ifF (by omega) ?_
    rcases hsg with rfl | rfl
    ·simp (disch:=omega) only [w64_in]
     refine cast (congrArg (fun z=>K z (S (sixtyL (sixtyL (t.drop j)).2.1).2.1) true) ?_) h
     omega
    ·simp (disch:=omega) only [w64_in]
     refine cast (congrArg (fun z=>K z (S (sixtyL (sixtyL (t.drop j)).2.1).2.1) true) ?_) h
     omega
   ·rw [if_neg e3]
    refine ifT (by omega) ?_
    have hz:(sixtyL (sixtyL (t.drop j)).2.1).1=0∧(sixtyL (sixtyL (t.drop j)).2.1).2.1=(sixtyL (t.drop j)).2.1:=sixty_bad _ (by simpa using e3)
    rw [hz.1,hz.2] at h
    rcases hsg with rfl | rfl
    ·simp (disch:=omega) only [w64_in]
     refine cast (congrArg (fun z=>K z (S (sixtyL (t.drop j)).2.1) true) ?_) h
     omega
    ·simp (disch:=omega) only [w64_in]
     refine cast (congrArg (fun z=>K z (S (sixtyL (t.drop j)).2.1) true) ?_) h
     omega
  ·rw [if_neg e2]
   refine ifT (by omega) ?_
   have hz:=sixty_bad _ (by simpa using e2)
   have em:moreL (sixtyL (t.drop j))=(0,(sixtyL (t.drop j)).2.1,false):=by unfold moreL; rw [if_neg e2]
   rw [em,hz.1] at h
   simp only at h
   rw [hz.2] at h
   rcases hsg with rfl | rfl
   ·simp (disch:=omega) only [w64_in]
    refine cast (congrArg (fun z=>K z (S (t.drop j)) true) ?_) h
    omega
   ·simp (disch:=omega) only [w64_in]
    refine cast (congrArg (fun z=>K z (S (t.drop j)) true) ?_) h
    omega
theorem valL_mono (a b:List UInt8):valL a≤valL (a++b):=by
 have:∀ (b:List UInt8) (n:Nat),n≤b.foldl (fun n c=>10 * n+(c.toNat - 48)) n:=by
  intro b
  induction b with
  | nil=>intro n; exact Nat.le_refl _
  | cons c b ih=>intro n; rw [List.foldl_cons]; exact Nat.le_trans (by omega) (ih _)
 unfold valL
 rw [List.foldl_append]
 exact this b _
theorem rtimeL (l t:List UInt8) (sg:Int) (hsg:sg=1∨sg=-1) (hl:t.length≤140737488351232) {K:Int→ByteArray→Bool→Prop}
  (h:if dl t=0 then K 0 (S l) false else K (sg * (((hourL t).1:Int) * 3600+(sixtyL (t.drop (hourL t).2)).1 * 60+(moreL (sixtyL (t.drop (hourL t).2))).1)) (S (moreL (sixtyL (t.drop (hourL t).2))).2.1) true) :
  Eng.lp (Lq1v_0 Xq2e K) ((S l,(0:Int),ByteArray.mk #[],false,S t,sg,(0:Int),(0:Int),()),()):=by
 obtain ⟨b1,b2,b3,b4⟩:=hour_bd t
 have hd:=dl_le t
 have hmin:valL (t.take (min (dl t) 3)) > 167→min (dl t) 3=3:=fun hg=>by
  have h2:valL (t.take (min (dl t) 3)) < 10 ^ (t.take (min (dl t) 3)).length:=valL_lt _ (take_dl_dig t _ (Nat.min_le_left _ _))
  rcases Nat.lt_or_ge (min (dl t) 3) 3 with h | h
  ·have:(t.take (min (dl t) 3)).length≤2:=by rw [List.length_take]; omega
   have:10 ^ (t.take (min (dl t) 3)).length≤10 ^ 2:=Nat.pow_le_pow_right (by omega) this
   omega
  ·omega
 have hspec:(hourL t).1=valL (t.take (hourL t).2)∧((hourL t).2=t.length∨(hourL t).2=3∨∃ hlt:(hourL t).2 < t.length,¬ (48≤t[(hourL t).2].toNat∧t[(hourL t).2].toNat≤57)∨167 < 10 * (hourL t).1+(t[(hourL t).2].toNat - 48)):=by
  by_cases hg:valL (t.take (min (dl t) 3)) > 167
  ·have h3:=hmin hg
   have hh:hourL t=(valL (t.take 3) / 10,2):=by unfold hourL; rw [if_pos hg,h3]
   rw [h3] at hg
   have hlt:2 < t.length:=by omega
   have hdig:=(isDig_iff _).1 (dl_digit t 2 (by omega))
   rw [take_succ_at t 2 hlt,valL_snoc] at hh hg
   rw [hh]
   simp only
   refine ⟨by omega,.inr (.inr ⟨hlt,.inr ?_⟩)⟩
   omega
  ·have hh:hourL t=(valL (t.take (min (dl t) 3)),min (dl t) 3):=by unfold hourL; rw [if_neg hg]
   rw [hh]
   simp only
   refine ⟨trivial,?_⟩
   rcases Nat.lt_or_ge (dl t) 3 with h3 | h3
   ·have hm:min (dl t) 3=dl t:=by omega
    rw [hm]
    rcases Nat.lt_or_ge (dl t) t.length with hlt | hge
    ·refine .inr (.inr ⟨hlt,.inl fun hc=>?_⟩)
     have hs:=dl_stop t hlt
     rw [(isDig_iff _).2 hc] at hs; cases hs
    ·exact .inl (by omega)
   ·exact .inr (.inl (by omega))
 obtain ⟨hval,hex⟩:=hspec
 have fin:(if (hourL t).2=0 then K 0 (S l) false else K (sg * (((hourL t).1:Int) * 3600+(sixtyL (t.drop (hourL t).2)).1 * 60+(moreL (sixtyL (t.drop (hourL t).2))).1)) (S (moreL (sixtyL (t.drop (hourL t).2))).2.1) true):=by
  by_cases e:dl t=0
  ·rw [if_pos e] at h
   exact ifT (by omega) h
  ·rw [if_neg e] at h
   exact ifF (by have:=b4 e; omega) h
 have hE:=rtimeE l t sg hsg (hourL t).1 (hourL t).2 b1 (by omega) fin
 refine lp_at (fun j:Nat=>((S l,(0:Int),ByteArray.mk #[],false,S t,sg,(j:Int),(valL (t.take j):Int),()),())) (hourL t).2 (by simp [valL]) fun j hj k hk=>?_
 unfold Lq1v_0
 by_cases hlt:j < (hourL t).2
 ·have hjl:j < t.length:=by omega
  have hdig:=(isDig_iff _).1 (dl_digit t j (by omega))
  have hv1:valL (t.take (j+1))≤167:=by
   have e:t.take (hourL t).2=t.take (j+1)++(t.take (hourL t).2).drop (j+1):=by
    have:=List.take_append_drop (j+1) (t.take (hourL t).2)
    rw [List.take_take,Nat.min_eq_left (by omega)] at this
    exact this.symm
   have:=valL_mono (t.take (j+1)) ((t.take (hourL t).2).drop (j+1))
   rw [← e,← hval] at this
   omega
  have:=hk hlt
  rw [take_succ_at t j hjl,valL_snoc] at this hv1
  simp only [S_size,decide_eq_true_eq,ge_iff_le,Int.toNat_natCast,bAt_get t j hjl,lt]
  rw [wu8_in (by omega) (by omega),w64_in (n:=(t[j].toNat:Int) - 48) (by omega) (by omega),w64_in (n:=10 * (valL (t.take j):Int)) (by omega) (by omega),
   w64_in (n:=10 * (valL (t.take j):Int)+((t[j].toNat:Int) - 48)) (by omega) (by omega),w64_in (n:=(j:Int)+1) (by omega) (by omega)]
  refine ifT (by omega) (ifT (by omega) (ifT (by omega) (ifT (by omega) (ifT (by omega) (ifT (by omega) (ifT (by omega) (ifT (by omega) (ifT (by omega) ?_))))))))
  refine cast (congrArg k ?_) this
  simp only [Prod.mk.injEq,and_true,true_and]
  omega
 ·have ej:j=(hourL t).2:=by omega
  have hE':=hE
  rw [hval] at hE' hex
  rw [← ej] at hE' hex
  have hj3:valL (t.take j) < 10000:=valL_take_lt t j (by omega) (by omega)
  simp only [decide_eq_true_eq,ge_iff_le] at hE' ⊢
  rcases hex with hx | hx | ⟨hlt2,hx⟩
  ·exact ifF (by rw [S_size]; omega) hE'
  ·refine ifC (fun _=>?_) fun _=>hE'
   exact ifF (by omega) hE'
  ·simp only [Int.toNat_natCast,bAt_get t j hlt2] at hE' ⊢
   refine ifT (by rw [S_size]; omega) (ifC (fun _=>?_) fun _=>hE')
   refine ifT (by rw [S_size]; omega) ?_
   by_cases hg:48≤t[j].toNat∧t[j].toNat≤57
   ·refine ifT (by omega) (ifT (by rw [S_size]; omega) (ifT (by omega) (ifT (by rw [S_size]; omega) ?_)))
    simp only [lt]
    rw [wu8_in (by omega) (by omega),w64_in (n:=(t[j].toNat:Int) - 48) (by omega) (by omega),w64_in (n:=10 * (valL (t.take j):Int)) (by omega) (by omega),
     w64_in (n:=10 * (valL (t.take j):Int)+((t[j].toNat:Int) - 48)) (by omega) (by omega)]
    exact ifF (by omega) hE'
   ·refine ifC (fun _=>?_) fun _=>hE'
    refine ifT (by rw [S_size]; omega) (ifF (by omega) hE')
end Go.Proofs.YtbnpclndiichcaaGreatDoor
end
section
set_option linter.unusedVariables false
set_option linter.unusedSimpArgs false
namespace Go.Proofs.YtbnpclndiichcaaGreatDoor
open Go Go.Proofs.YtbnpclndiichcaaGreatDoor.Eng Go.Proofs.YtbnpclndiichcaaGreatDoor.Pl
theorem u8_of {c d:UInt8} (h:(c.toNat:Int)=(d.toNat:Int)):c=d:=u8_eq (by omega)
theorem drop1 (c:UInt8) (r:List UInt8):ByteArray.extract (S (c :: r)) 1 (Int.toNat (↑(ByteArray.size (S (c :: r))):Int))=S r:=by
 rw [S_extract,S_size,Int.toNat_natCast,take_all]; rfl
theorem rtime (l:List UInt8) (hl:l.length≤140737488351232) {K} (h:K (timeL l).1 (S (timeL l).2.1) (timeL l).2.2):Xq1v (S l) K:=by
 unfold Xq1v Yq1v
 have key:∀ (t:List UInt8) (sg:Int),(sg=1∨sg=-1)→signL l=(sg,t)→t.length≤l.length→Eng.lp (Lq1v_0 Xq2e K) ((S l,(0:Int),ByteArray.mk #[],false,S t,sg,(0:Int),(0:Int),()),()):=by
  intro t sg hsg he ht
  refine rtimeL l t sg hsg (by omega) ?_
  unfold timeL at h
  rw [he] at h
  by_cases e:dl t=0
  ·rw [if_pos e] at h
   exact ifT e h
  ·rw [if_neg e] at h
   exact ifF e h
 cases l with
 | nil=>exact ifF (by decide) (key [] 1 (.inl rfl) rfl (Nat.le_refl _))
 | cons c r =>
  have hs:(↑(ByteArray.size (S (c :: r))):Int)=(r.length:Int)+1:=by rw [S_size]; rfl
  rw [drop1,bAt0,hs]
  simp only [decide_eq_true_eq,gt_iff_lt,beq_iff_eq]
  refine ifT (by omega) (ifT (by omega) (ifC (fun e=>?_) fun e=>ifT (by omega) (ifC (fun e2=>?_) fun e2=>?_)))
  ·have:c=45:=u8_of e
   subst this
   exact ifT (by omega) (ifT e (ifT (by omega) (ifT (by omega) (key r (-1) (.inr rfl) rfl (by simp)))))
  ·have:c=43:=u8_of e2
   subst this
   exact ifT (by omega) (ifF e (ifT (by omega) (ifT (by omega) (key r 1 (.inl rfl) rfl (by simp)))))
  ·refine key (c :: r) 1 (.inl rfl) ?_ (Nat.le_refl _)
   show (if c=45 then ((-1:Int),r) else if c=43 then (1,r) else (1,c :: r))=(1,c :: r)
   rw [if_neg (fun h=>e (by rw [h]; rfl)),if_neg (fun h=>e2 (by rw [h]; rfl))]
theorem rruleParse (l:List UInt8) (hl:l.length≤140737488351232) {K} (h:K ((parseL l).1,(parseL l).2.1,(parseL l).2.2.1,(parseL l).2.2.2.1,(parseL l).2.2.2.2.1,()) (S (parseL l).2.2.2.2.2.1) (parseL l).2.2.2.2.2.2):Xq19 (S l) K:=by
 unfold Xq19 Yq19
 refine rhead l hl (rruleRight _ _ _ _ _ ?_)
 have hlen:=refHead_len l
 by_cases hR:rightR (refHead l).1 (refHead l).2.1 (refHead l).2.2.1 (refHead l).2.2.2.1 7200=true
 ·refine ifF (by simp [hR]) ?_
  have hd:=head_yes l hR
  have hp:parseL l=if (refHead l).2.2.2.2.head? = some 47 then
    (if (timeL (refHead l).2.2.2.2.tail).2.2=true∧rightR (refHead l).1 (refHead l).2.1 (refHead l).2.2.1 (refHead l).2.2.2.1 (timeL (refHead l).2.2.2.2.tail).1=true then
     ((refHead l).1,(refHead l).2.1,(refHead l).2.2.1,(refHead l).2.2.2.1,(timeL (refHead l).2.2.2.2.tail).1,(timeL (refHead l).2.2.2.2.tail).2.1,true) else (0,0,0,0,0,l,false))
    else ((refHead l).1,(refHead l).2.1,(refHead l).2.2.1,(refHead l).2.2.2.1,7200,(refHead l).2.2.2.2,true):=by
   unfold parseL
   rw [hd]
   simp only [if_true]
   rw [if_pos hR]
  generalize parseL l=q at *
  generalize (refHead l).2.2.2.2=rest at *
  cases rest with
  | nil =>
   rw [if_neg (by simp)] at hp
   subst hp
   exact ifF (by rw [S_size]; simp) h
  | cons c r =>
   have hs:(↑(ByteArray.size (S (c :: r))):Int)=(r.length:Int)+1:=by rw [S_size]; rfl
   rw [drop1,bAt0,hs]
   simp only [List.length_cons] at hlen
   simp only [decide_eq_true_eq,gt_iff_lt,beq_iff_eq]
   refine ifT (by omega) (ifT (by omega) (ifC (fun e=>?_) fun e=>?_))
   ·have:c=47:=u8_of e
    subst this
    rw [if_pos (show (47 :: r).head? = some 47 from rfl),List.tail_cons] at hp
    refine ifT (by omega) (ifT (by omega) (rtime r (by omega) ?_))
    have hb:=time_bd r
    have hs:=right_sec (refHead l).1 (refHead l).2.1 (refHead l).2.2.1 (refHead l).2.2.2.1 (timeL r).1 7200 ⟨hb.1,hb.2.1⟩ (by omega)
    have hR':=hs.trans hR
    by_cases ht:(timeL r).2.2=true
    ·rw [if_pos ⟨ht,hR'⟩] at hp
     subst hp
     exact ifF (by simp [ht]) h
    ·rw [if_neg (fun h=>ht h.1)] at hp
     subst hp
     exact ifT (by simpa using ht) h
   ·rw [if_neg (fun h=>e (by simp at h; rw [h]; rfl))] at hp
    subst hp
    exact h
 ·have hno:(dateL l).2.2.2.2.2=true→¬ rightR (dateL l).1 (dateL l).2.1 (dateL l).2.2.1 (dateL l).2.2.2.1 7200=true:=by
   intro ho h
   have e:=head_of l ho h
   rw [e] at hR
   exact hR h
  have hz:parseL l=(0,0,0,0,0,l,false):=by
   unfold parseL
   by_cases ho:(dateL l).2.2.2.2.2=true
   ·rw [if_pos ho]
    have h':=hno ho
    split
    ·have hb:=time_bd (dateL l).2.2.2.2.1.tail
     rw [if_neg (fun h=>h' ((right_sec _ _ _ _ 7200 (timeL (dateL l).2.2.2.2.1.tail).1 (by omega) ⟨hb.1,hb.2.1⟩).trans h.2))]
    ·first | rfl | rw [if_neg h']
   ·rw [if_neg ho]
  rw [hz] at h
  exact ifT (by simpa using hR) h
end Go.Proofs.YtbnpclndiichcaaGreatDoor
end
