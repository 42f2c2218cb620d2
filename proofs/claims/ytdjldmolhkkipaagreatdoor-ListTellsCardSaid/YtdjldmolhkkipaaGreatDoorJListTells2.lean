/- What the functions come to in plain data, with proofs, and what that answers. -/
import Derived.Test.YtdjldmolhkkipaaGreatDoorJListTells1
section
set_option linter.unusedVariables false
set_option linter.unusedSimpArgs false
namespace Go.Proofs.YtdjldmolhkkipaaGreatDoor
open Go Go.Proofs.YtdjldmolhkkipaaGreatDoor.Eng Go.Proofs.YtdjldmolhkkipaaGreatDoor.Pl
set_option maxRecDepth 100000
set_option maxHeartbeats 2000000
def NV (ns:List Int):List V:=ns.map fun n=>.c (.int .i64 n)
theorem NV_len (ns:List Int):(NV ns).length=ns.length:=by simp [NV]
theorem asNV {ns:List Int} {i:Nat} (h:i < ns.length) {F:Prop} {K:Int→Prop} (hk:K (ns.getD i 0)):Eng.asInt .i64 (getC (NV ns) i 0) F K:=by
 have:getC (NV ns) i 0=some (.c (.int .i64 (ns.getD i 0))):=by simp [getC,NV,V.cells,h,List.getD]
 rw [this]; simpa [Eng.asInt] using hk
def rowE (r:LW):V:=.agg [.c (.string (S r.kd)),.sl 1 false (WV r.ws),.sl 1 false (NV r.ns),.c (.bool r.ok)]
def RWV (R:List LW):List V:=R.map rowE
theorem RWV_len (R:List LW):(RWV R).length=R.length:=by simp [RWV]
theorem RWV_app (R:List LW) (r:LW):RWV R++[rowE r]=RWV (R++[r]):=by simp [RWV]
theorem asR0 {R:List LW} {i:Nat} (h:i < R.length) {F:Prop} {K:ByteArray→Prop} (hk:K (S (R.getD i lw0).kd)):Eng.asStr (getC (RWV R) i 0) F K:=by
 have:getC (RWV R) i 0=some (.c (.string (S (R.getD i lw0).kd))):=by simp [getC,RWV,rowE,V.cells,h,List.getD]
 rw [this]; simpa [Eng.asStr] using hk
theorem asR1 {R:List LW} {i:Nat} (h:i < R.length) {F:Prop} {K:Bool→List V→Prop} (hk:K false (WV (R.getD i lw0).ws)):Eng.asSl 1 (getC (RWV R) i 1) F K:=by
 have:getC (RWV R) i 1=some (.sl 1 false (WV (R.getD i lw0).ws)):=by simp [getC,RWV,rowE,V.cells,h,List.getD]
 rw [this]; simpa [Eng.asSl] using hk
theorem asR2 {R:List LW} {i:Nat} (h:i < R.length) {F:Prop} {K:Bool→List V→Prop} (hk:K false (NV (R.getD i lw0).ns)):Eng.asSl 1 (getC (RWV R) i 2) F K:=by
 have:getC (RWV R) i 2=some (.sl 1 false (NV (R.getD i lw0).ns)):=by simp [getC,RWV,rowE,V.cells,h,List.getD]
 rw [this]; simpa [Eng.asSl] using hk
theorem asR3 {R:List LW} {i:Nat} (h:i < R.length) {F:Prop} {K:Bool→Prop} (hk:K (R.getD i lw0).ok):Eng.asBool (getC (RWV R) i 3) F K:=by
 have:getC (RWV R) i 3=some (.c (.bool (R.getD i lw0).ok)):=by simp [getC,RWV,rowE,V.cells,h,List.getD]
 rw [this]; simpa [Eng.asBool] using hk
theorem eroom (n k:Nat) (hn:n≤100000000) (hk:k≤80):roomOk n k=true:=by
 unfold roomOk
 have:(n+1000) * k≤100001000 * 80:=Nat.mul_le_mul (by omega) hk
 simp; omega
theorem eNumbers (kd s:List UInt8) (many:Nat) (hs:s.length≤1000000) {K:ByteArray×Unit×Unit×Bool×Unit→List V→Bool→Bool→List V→Bool→Bool→Prop}
  (h:∀ o f,K (S kd,(),(),(numsR kd s many).ok,()) (WV (numsR kd s many).ws) o f (NV (numsR kd s many).ns) true false):Xq1v (S kd) (S s) (many:Int) K:=by
 unfold Xq1v Yq1v
 refine kWords s hs ?_
 rw [WV_len]
 have hlw:=words_len s
 refine lp_ind (fun x=>(wordsL s).length - x.1.2.2.2.2.2.1.toNat) (fun x=>∃ j:Nat,j≤(wordsL s).length ∧
  x=(((many:Int),(),(),(),(((wordsL s).length:Nat):Int),(j:Int),()),(ByteArray.mk #[],(),(),false,()),(S kd,(),(),((wordsL s).take j).all (fun w=>(numL w).2),()),(WV (wordsL s),true,false),NV (((wordsL s).take j).map fun w=>(numL w).1),())) ?_ ⟨0,Nat.zero_le _,rfl⟩
 rintro x ⟨j,hj,rfl⟩ k hk
 unfold Lq1v_0
 dsimp only
 rw [Int.toNat_natCast,WV_len]
 by_cases e:j < (wordsL s).length
 ·rw [if_pos (decide_eq_true (by omega)),if_pos (by omega)]
  have hwl:((wordsL s).getD j []).length≤s.length:=by rw [getD_in _ _ _ e]; exact words_mem_len s _ (List.getElem_mem _)
  refine asWd e (kNumber _ (by omega) ?_)
  rw [if_pos (eroom _ _ (by rw [NV_len,List.length_map,List.length_take,List.length_singleton]; omega) (by decide))]
  have w1:w64 ((j:Int)+1)=((j+1:Nat):Int):=by rw [w64_in (by omega) (by omega)]; omega
  have e1:(wordsL s).take (j+1)=(wordsL s).take j++[(wordsL s).getD j []]:=by rw [getD_in _ _ _ e]; exact List.take_succ_eq_append_getElem e
  have e2:NV (((wordsL s).take j).map fun w=>(numL w).1)++[V.c (.int .i64 (numL ((wordsL s).getD j [])).1)]=NV (((wordsL s).take (j+1)).map fun w=>(numL w).1):=by rw [e1]; simp [NV]
  have e3:((wordsL s).take (j+1)).all (fun w=>(numL w).2)=(((wordsL s).take j).all (fun w=>(numL w).2) && (numL ((wordsL s).getD j [])).2):=by rw [e1,List.all_append]; simp
  rw [w1,e2]
  have mu:(wordsL s).length - Int.toNat ((j+1:Nat):Int) < (wordsL s).length - j:=by omega
  cases ha:((wordsL s).take j).all (fun w=>(numL w).2)
  ·rw [if_neg (by simp)]
   refine hk _ ⟨j+1,e,?_⟩ mu
   rw [e3,ha]; rfl
  ·rw [if_pos rfl]
   refine hk _ ⟨j+1,e,?_⟩ mu
   rw [e3,ha]; rfl
 ·have:j=(wordsL s).length:=by omega
  subst this
  rw [if_neg (dneg (by omega)),List.take_length]
  unfold numsR at h
  have ei:((((wordsL s).length:Nat):Int) == (many:Int))=((wordsL s).length == many):=by
   by_cases q:(wordsL s).length=many
   ·rw [q]; simp
   ·rw [show ((wordsL s).length == many)=false by simpa using q]; simp; omega
  rw [ei]
  cases ha:(wordsL s).all (fun w=>(numL w).2)
  ·rw [if_neg (by simp)]
   rw [ha,if_neg (by simp)] at h
   exact h _ _
  ·rw [if_pos rfl]
   rw [ha] at h
   by_cases q:(wordsL s).length=many
   ·rw [if_neg (by simp [q])]
    rw [if_pos ⟨rfl,q⟩] at h
    exact h _ _
   ·rw [if_pos (by simpa using q)]
    rw [if_neg (fun z=>q z.2)] at h
    exact h _ _
theorem eRead (s:List UInt8) (hs:s.length≤1000000) {K:ByteArray×Unit×Unit×Bool×Unit→List V→Bool→Bool→List V→Bool→Bool→Prop}
  (h:∀ o f o' f',K (S (readL s).kd,(),(),(readL s).ok,()) (WV (readL s).ws) o f (NV (readL s).ns) o' f'):Xq29 (S s) K:=by
 unfold Xq29 Yq29
 refine kWords s hs ?_
 rw [WV_len]
 unfold readL at h
 by_cases e0:wordsL s=[]
 ·rw [if_pos (by simp [e0])]
  rw [if_pos e0] at h
  exact h _ _ _ _
 have hpos:0 < (wordsL s).length:=List.length_pos_iff.2 e0
 rw [if_neg (by simpa using e0)]
 rw [if_neg e0] at h
 have ek:ByteArray.extract (S s) 0 (Int.toNat (if (((S s).size:Nat):Int) < 2 then (((S s).size:Nat):Int) else 2))=S (s.take 2):=by
  rw [S_extract,List.drop_zero]
  rw [S_size]
  by_cases q:(s.length:Int) < 2
  ·rw [if_pos q]
   refine congrArg S ?_
   rw [List.take_of_length_le (by omega),List.take_of_length_le (by omega)]
  ·rw [if_neg q]; rfl
 have ed:ByteArray.extract (S s) 2 (Int.toNat (((S s).size:Nat):Int))=S (s.drop 2):=by
  rw [S_extract,S_size,Int.toNat_natCast,List.take_of_length_le (by rw [List.length_drop]; omega)]
 have hdl:(s.drop 2).length≤1000000:=by rw [List.length_drop]; omega
 have two:s.take 2=kStamp∨s.take 2=kExp∨s.take 2=kHash→2≤s.length:=fun q=>by
  have:(s.take 2).length=2:=by rcases q with q | q | q <;> rw [q] <;> rfl
  rw [List.length_take] at this; omega
 rw [if_pos (by rw [S_size]; split <;> simp at * <;> omega),if_pos (by rw [S_size]; split <;> simp at * <;> omega)]
 simp only [ek,ed,kS_eq _ [35,36],kS_eq _ [35,64],kS_eq _ [35,104]]
 have rest:¬ (s.take 2=kStamp∨s.take 2=kExp)→(if (s.take 2 == [35,104])=true then
   (if 0≤(((S s).size:Nat):Int)∧(((S s).size:Nat):Int)≤(((S s).size:Nat):Int) then (if 0≤(2:Int)∧(2:Int)≤(((S s).size:Nat):Int) then Xq2l (S (s.drop 2)) (fun r11 r12=>K (S (s.take 2),(),(),r12,()) [] true true [] true true) else False) else False)
   else (if 0≤(0:Int)∧(0:Int) < (((wordsL s).length:Nat):Int) then Eng.asStr (getC (WV (wordsL s)) 0 0) False fun t13=>Xq0f t13 (S [35]) (fun r14=>if r14=true then K (S [35],(),(),true,()) [] true true [] true true else
    Xq20 (S s) (S [35]) (fun r15 r16 r17=>Xq1v (S []) r15 2 (fun r18 r19 r20 r21 r22 r23 r24=>K (r18.1,(),(),r18.2.2.2.1,()) r19 r20 r21 r22 r23 r24))) else False)):=fun q=>by
  rw [if_neg q] at h
  by_cases q3:s.take 2=kHash
  ·have hs2:=two (.inr (.inr q3))
   rw [if_pos (by rw [q3]; rfl),if_pos (by omega),if_pos (by rw [S_size]; omega)]
   rw [if_pos q3] at h
   refine eHash _ hdl ?_
   rw [q3]
   exact h _ _ _ _
  ·rw [if_neg (by simpa using q3),if_pos (by omega)]
   rw [if_neg q3] at h
   refine asWd hpos (kPre _ _ ?_)
   cases hp:preB ((wordsL s).getD 0 []) [35]
   ·rw [if_neg (by simp)]
    rw [show kRem=[35] from rfl,hp,if_neg (by simp)] at h
    refine kCut s (by omega) fun b o=>eNumbers [] (bareL s) 2 (Nat.le_trans (bare_len' s) hs) fun o f=>?_
    exact h _ _ _ _
   ·rw [if_pos rfl]
    rw [show kRem=[35] from rfl,hp,if_pos rfl] at h
    exact h _ _ _ _
 by_cases q1:s.take 2=kStamp
 ·have hs2:=two (.inl q1)
  rw [if_pos (by rw [q1]; rfl),if_pos (by rw [q1]; rfl),if_pos (by omega),if_pos (by rw [S_size]; omega)]
  rw [if_pos (.inl q1)] at h
  exact eNumbers (s.take 2) (s.drop 2) 1 hdl fun o f=>h _ _ _ _
 ·rw [if_neg (by simpa using q1)]
  by_cases q2:s.take 2=kExp
  ·have hs2:=two (.inr (.inl q2))
   rw [if_pos (by rw [q2]; rfl),if_pos (by omega),if_pos (by rw [S_size]; omega)]
   rw [if_pos (.inr q2)] at h
   exact eNumbers (s.take 2) (s.drop 2) 1 hdl fun o f=>h _ _ _ _
  ·rw [if_neg (by simpa using q2)]
   exact rest (fun z=>z.elim q1 q2)
theorem eRows (s:List UInt8) (hs:s.length≤1000000) {K:List V→Bool→Bool→Prop} (h:K (RWV (rowsL s)) true false):Xq28 (S s) K:=by
 unfold Xq28 Yq28
 refine kLines s (by omega) ?_
 rw [WV_len]
 have hll:=lines_len s
 refine lp_ind (fun x=>(linesL s).length - x.1.2.2.2.1.toNat) (fun x=>∃ j:Nat,j≤(linesL s).length∧x=(((),(),(((linesL s).length:Nat):Int),(j:Int),()),(WV (linesL s),true,false),RWV (((linesL s).take j).map readL),())) ?_ ⟨0,Nat.zero_le _,rfl⟩
 rintro x ⟨j,hj,rfl⟩ k hk
 unfold Lq28_0
 dsimp only
 rw [Int.toNat_natCast,WV_len]
 by_cases e:j < (linesL s).length
 ·rw [if_pos (decide_eq_true (by omega)),if_pos (by omega)]
  have hwl:((linesL s).getD j []).length≤s.length:=by rw [getD_in _ _ _ e]; exact lines_mem_len s _ (List.getElem_mem _)
  refine asWd e (eRead _ (by omega) fun o f o' f'=>?_)
  rw [if_pos (eroom _ _ (by rw [RWV_len,List.length_map,List.length_take,List.length_singleton]; omega) (by decide))]
  have w1:w64 ((j:Int)+1)=((j+1:Nat):Int):=by rw [w64_in (by omega) (by omega)]; omega
  have e1:(linesL s).take (j+1)=(linesL s).take j++[(linesL s).getD j []]:=by rw [getD_in _ _ _ e]; exact List.take_succ_eq_append_getElem e
  have e2:RWV (((linesL s).take j).map readL)++[rowE (readL ((linesL s).getD j []))]=RWV (((linesL s).take (j+1)).map readL):=by rw [e1,RWV_app,List.map_append]; rfl
  simp only [lt]
  rw [w1]
  refine hk _ ⟨j+1,e,?_⟩ (by show (linesL s).length - Int.toNat ((j+1:Nat):Int) < (linesL s).length - Int.toNat (j:Int); omega)
  rw [← e2]; rfl
 ·have:j=(linesL s).length:=by omega
  subst this
  rw [if_neg (dneg (by omega)),List.take_length]
  exact h
end Go.Proofs.YtdjldmolhkkipaaGreatDoor
end
section
set_option linter.unusedVariables false
set_option linter.unusedSimpArgs false
namespace Go.Proofs.YtdjldmolhkkipaaGreatDoor
open Go Go.Proofs.YtdjldmolhkkipaaGreatDoor.Eng Go.Proofs.YtdjldmolhkkipaaGreatDoor.Pl
set_option maxRecDepth 100000
set_option maxHeartbeats 2000000
theorem join0:∀ ws:List (List UInt8),Lib.join ws []=ws.flatten
 | []=>by simp [Lib.join]
 | [a]=>by simp [Lib.join]
 | a :: b :: r=>by
  have ih:=join0 (b :: r)
  simp only [Lib.join] at ih ⊢
  simp at ih ⊢
  first | exact ih | (rw [ih]) | skip
theorem eJoin0 (ws:List (List UInt8)) (h1:ws.length≤1000000) (h2:ws.flatten.length≤100000000) {K:ByteArray→Prop} (h:K (S ws.flatten)):Xjoin (WV ws) (ByteArray.mk #[]) K:=by
 have e:(ws.map S).map (fun b=>b.data.toList)=ws:=by rw [List.map_map]; exact map_id_of ws fun w _=>S_data w
 refine ⟨ws.map S,by simp [WV,cs,List.map_map],by simpa using h1,?_,?_⟩
 ·rw [e]; exact Nat.le_trans (Nat.le_of_eq (congrArg List.length (join0 ws))) h2
 ·rw [e]; exact (congrArg (fun l=>K ⟨l.toArray⟩) (join0 ws)).mpr h
def PVs (ps:List (List UInt8)):List V:=ps.map fun p=>.sl 1 false (BV p)
theorem PVs_app (ps:List (List UInt8)) (w:List UInt8):PVs ps++[.sl 1 false (bytesV (S w))]=PVs (ps++[w]):=by rw [bytesV_S]; simp [PVs,BV,B8]
theorem PVs_len (ps:List (List UInt8)):(PVs ps).length=ps.length:=by simp [PVs]
theorem parts_of (ps:List (List UInt8)):Parts (PVs ps) ps:=⟨PVs_len ps,fun i h=>⟨1,false,by simp [PVs,h],.inl rfl⟩⟩
theorem eset20z (f z:Nat→Int):List.set (agL .u8 20 z) 0 (setE (List.getD (agL .u8 20 z) 0 V.bad) 0 [V.c (.int .u8 (f 0)),V.c (.int .u8 (f 1)),V.c (.int .u8 (f 2)),V.c (.int .u8 (f 3)),V.c (.int .u8 (f 4)),V.c (.int .u8 (f 5)),V.c (.int .u8 (f 6)),V.c (.int .u8 (f 7)),V.c (.int .u8 (f 8)),V.c (.int .u8 (f 9)),V.c (.int .u8 (f 10)),V.c (.int .u8 (f 11)),V.c (.int .u8 (f 12)),V.c (.int .u8 (f 13)),V.c (.int .u8 (f 14)),V.c (.int .u8 (f 15)),V.c (.int .u8 (f 16)),V.c (.int .u8 (f 17)),V.c (.int .u8 (f 18)),V.c (.int .u8 (f 19))])=agL .u8 20 f:=by kernel_rfl
theorem eHashed (R:List LW) (hR:∀ r∈R,r.ws.length≤1000000∧r.ws.flatten.length≤100000000) (hn:R.length≤100000) (hl:(hashedL R).length≤100000) {K:T20→Prop} (h:K (t20 (digest (hashedL R)))):Xq1y (RWV R) K:=by
 unfold Xq1y Yq1y
 refine lp_ind (fun x=>3 - x.1.2.2.2.2.2.1.toNat) (fun x=>∃ (i:Nat) (ps:List (List UInt8)),i≤3∧ps.length≤i * R.length∧ps.flatten=((kindsL.take i).map fun kd=>hashedK kd R).flatten ∧
  x=((RWV R,(),(),(),(3:Int),(i:Int),()),agL .u8 20 (fun _=>0),WV kindsL,PVs ps,())) ?_ ⟨0,[],by omega,by simp,rfl,rfl⟩
 rintro x ⟨i,ps,hi,hpl,hpf,rfl⟩ k hk
 unfold Lq1y_0
 dsimp only
 rw [WV_len,Int.toNat_natCast]
 have kl:kindsL.length=3:=rfl
 by_cases e:i < 3
 ·rw [if_pos (decide_eq_true (by omega)),if_pos (by rw [kl]; omega)]
  refine asWd (by rw [kl]; exact e) ?_
  generalize hkd:kindsL.getD i []=kd
  rw [RWV_len]
  refine lp_ind (fun x=>R.length - x.1.2.2.2.2.2.2.2.2.2.1.toNat) (fun x=>∃ (j:Nat) (qs:List (List UInt8)),j≤R.length∧qs.length≤i * R.length+j∧qs.flatten=ps.flatten++hashedK kd (R.take j) ∧
   x=((RWV R,(),(),S kd,(),(3:Int),(i:Int),RWV R,((R.length:Nat):Int),(j:Int),()),agL .u8 20 (fun _=>0),WV kindsL,PVs qs,())) ?_ ⟨0,ps,Nat.zero_le _,by omega,by simp [hashedK],rfl⟩
  rintro x ⟨j,qs,hj,hql,hqf,rfl⟩ k2 hk2
  unfold Lq1y_1
  dsimp only
  rw [RWV_len,Int.toNat_natCast]
  have hi3:i * R.length≤300000:=by
   have:i * R.length≤3 * R.length:=Nat.mul_le_mul_right _ (by omega)
   omega
  by_cases ej:j < R.length
  ·rw [if_pos (decide_eq_true (by omega)),if_pos (by omega)]
   refine asR0 ej (asR1 ej (asR2 ej (asR3 ej ?_)))
   have w1:w64 ((j:Int)+1)=((j+1:Nat):Int):=by rw [w64_in (by omega) (by omega)]; omega
   have hr:=hR (R.getD j lw0) (by rw [getD_in _ _ _ ej]; exact List.getElem_mem _)
   have et:R.take (j+1)=R.take j++[R.getD j lw0]:=by rw [getD_in _ _ _ ej]; exact List.take_succ_eq_append_getElem ej
   have eh:hashedK kd (R.take (j+1))=hashedK kd (R.take j)++(if (R.getD j lw0).kd=kd then (R.getD j lw0).ws.flatten else []):=by rw [et,hashedK_app]; simp [hashedK]
   have mu:R.length - Int.toNat ((j+1:Nat):Int) < R.length - Int.toNat (j:Int):=by omega
   rw [kS_eq,w1]
   by_cases ek:(R.getD j lw0).kd=kd
   ·rw [if_pos (by simpa using ek)]
    rw [if_pos ek] at eh
    refine eJoin0 _ hr.1 hr.2 ?_
    rw [if_pos (eroom _ _ (by rw [PVs_len,List.length_singleton]; omega) (by decide)),PVs_app]
    exact hk2 _ ⟨j+1,qs++[(R.getD j lw0).ws.flatten],ej,by simp; omega,by rw [List.flatten_append,hqf,eh]; simp,rfl⟩ mu
   ·rw [if_neg (by simpa using ek)]
    rw [if_neg ek,List.append_nil] at eh
    exact hk2 _ ⟨j+1,qs,ej,by omega,by rw [hqf,eh],rfl⟩ mu
  ·have:j=R.length:=by omega
   subst this
   rw [if_neg (dneg (by omega))]
   rw [List.take_length] at hqf
   have w1:w64 ((i:Int)+1)=((i+1:Nat):Int):=by rw [w64_in (by omega) (by omega)]; omega
   rw [w1]
   refine hk _ ⟨i+1,qs,e,by rw [Nat.add_mul]; omega,?_,rfl⟩ (by show 3 - Int.toNat ((i+1:Nat):Int) < 3 - Int.toNat (i:Int); omega)
   have et:kindsL.take (i+1)=kindsL.take i++[kd]:=by rw [← hkd,getD_in _ _ _ (by rw [kl]; exact e)]; exact List.take_succ_eq_append_getElem (by rw [kl]; exact e)
   rw [hqf,hpf,et,List.map_append,List.flatten_append]
   simp
 ·have:i=3:=by omega
  subst this
  rw [if_neg (by simp)]
  have ef:ps.flatten=hashedL R:=by rw [hpf]; simp [kindsL,hashedL]
  refine sSum (PVs ps) ps (parts_of ps) (by omega) (by rw [ef]; exact hl) ?_
  rw [agL_len,if_pos (by decide),ef]
  have:=eset20z (fun i=>bi (digest (hashedL R) i)) (fun _=>0)
  simp only [lt]
  rw [this]
  rw [asIe 0 rfl,asIe 1 rfl,asIe 2 rfl,asIe 3 rfl,asIe 4 rfl,asIe 5 rfl,asIe 6 rfl,asIe 7 rfl,asIe 8 rfl,asIe 9 rfl,asIe 10 rfl,asIe 11 rfl,asIe 12 rfl,asIe 13 rfl,asIe 14 rfl,asIe 15 rfl,asIe 16 rfl,asIe 17 rfl,asIe 18 rfl,asIe 19 rfl]
  exact h
theorem rows_bd (s:List UInt8) (hs:s.length≤30000):(∀ r∈rowsL s,r.ws.length≤1000000∧r.ws.flatten.length≤100000000)∧(rowsL s).length≤100000∧(hashedL (rowsL s)).length≤100000:=by
 refine ⟨fun r hr=>?_,?_,?_⟩
 ·obtain ⟨x,hx,rfl⟩:=List.mem_map.1 hr
  have h1:=row_len x
  have h2:=lines_mem_len s x hx
  omega
 ·rw [rows_len]; have:=lines_len s; omega
 ·have:=hashed_len s; omega
theorem eHashS (s:List UInt8) (hs:s.length≤30000) {K:T20→Prop} (h:K (t20 (hashL s))):Xq26 (S s) K:=by
 unfold Xq26 Yq26
 obtain ⟨b1,b2,b3⟩:=rows_bd s hs
 exact eRows s (by omega) (eHashed _ b1 b2 b3 h)
theorem bbeq (u:ByteArray):(u == u)=true:=(MapKept.bytes_beq u u).2 rfl
def mval (m:List (Value×V)) (k:List UInt8) (n:Int):Prop:=(mpGet (S k) m=some none∧n=0)∨mpGet (S k) m=some (some (.c (.int .i64 n)))
theorem asMv {m:List (Value×V)} {k:List UInt8} {n:Int} (hm:mval m k n) {K:Int→Bool→Prop} (h:∀ b,K n b):Eng.asMpI .i64 (mpGet (S k) m) False K:=by
 rcases hm with ⟨h1,h2⟩ | h1
 ·rw [h1]; subst h2; exact h false
 ·rw [h1]; exact h true
theorem mval_some {m:List (Value×V)} {k:List UInt8} {n:Int} (hm:mval m k n):(mpGet (S k) m).isSome=true:=by
 rcases hm with ⟨h1,_⟩ | h1 <;> rw [h1] <;> rfl
theorem mput_same (k:List UInt8) (x:Int):∀ (m:List (Value×V)),(mpGet (S k) m).isSome=true→mval (mpPut (S k) (.c (.int .i64 x)) m) k x
 | [],_=>by right; simp [mpPut,mpGet,bbeq]
 |(.string u,v) :: r,h=>by
  right
  rw [mpPut]
  cases e:(S k == u)
  ·simp only [cond_false]
   rw [mpGet,e] at h ⊢
   simp only [cond_false] at h ⊢
   rcases mput_same k x r h with ⟨h1,_⟩ | h1
   ·exact absurd h1 (by
     have:∀ m:List (Value×V),mpGet (S k) (mpPut (S k) (.c (.int .i64 x)) m)≠some none:=fun m=>by
      induction m with
      | nil=>simp [mpPut,mpGet,bbeq]
      | cons p m ih =>
       obtain ⟨a,b⟩:=p
       cases a with
       | string t =>
        rw [mpPut]
        cases e2:(S k == t)
        ·simp only [cond_false]; rw [mpGet,e2]; exact ih
        ·simp only [cond_true]; rw [mpGet,e2]; simp
       | _=>simp [mpPut,mpGet]
     exact this r)
   ·exact h1
  ·simp only [cond_true]
   rw [mpGet,e]; rfl
theorem mput_other (k k':List UInt8) (hne:k'≠k) (v:V) (n:Int) (m:List (Value×V)) (hm:mval m k' n):mval (mpPut (S k) v m) k' n:=by
 have hk:∀ a b:List UInt8,a≠b→(S a == S b)=false:=fun a b h=>by
  cases e:(S a == S b)
  ·rfl
  ·exfalso; apply h
   have:=(MapKept.bytes_beq _ _).1 e
   have:=congrArg (fun b=>b.data.toList) this
   simpa [S_data] using this
 have:∀ m:List (Value×V),(mpGet (S k') m).isSome=true→mpGet (S k') (mpPut (S k) v m)=mpGet (S k') m:=fun m=>by
  induction m with
  | nil =>
   intro _
   simp only [mpPut,mpGet]
   rw [hk k' k hne]; rfl
  | cons p m ih =>
   obtain ⟨a,b⟩:=p
   cases a with
   | string t =>
    intro h
    rw [mpPut]
    rw [mpGet] at h ⊢
    cases e1:(S k == t)
    ·simp only [cond_false]
     rw [mpGet]
     cases e2:(S k' == t)
     ·rw [e2] at h
      simp only [cond_false] at h ⊢
      exact ih h
     ·rfl
    ·simp only [cond_true]
     have et:=(MapKept.bytes_beq _ _).1 e1
     subst et
     rw [mpGet,hk k' k hne]; rfl
   | _=>intro h; simp [mpGet] at h
 have hs:=mval_some hm
 unfold mval at hm ⊢
 rw [this m hs]; exact hm
structure Mp (m:List (Value×V)) (s:LS):Prop where
 h1:mval m kStamp s.a1
 h2:mval m kExp s.a2
 h3:mval m kHash s.a3
theorem eData (s:LS) (n o:Int) (hn:0≤n∧n≤9223372036854775807) (ho:0≤o∧o≤9223372036854775807) (hf:0≤s.off∧s.off≤9223372036854775807) (hl:s.ls.length≤100000) (m:List (Value×V)) {K}
  (h:∀ w f,K (dataL s n o).2 false 0 (dataL s n o).1.off (dataL s n o).1.bg (TLV (dataL s n o).1.ls) w f m):Xq1j n o (TLV s.ls) false 0 s.off s.bg m K:=by
 unfold Xq1j Yq1j
 refine ePosix n hn.2 ?_
 rw [if_neg (by omega)]
 refine sdiv (n - 2208988800) 86400 (by omega) (by omega) (by omega) (by omega) ?_
 have wd:w64 ((n - 2208988800) / 86400 - 1)=(n - 2208988800) / 86400 - 1:=w64_in (by omega) (by omega)
 have ws:w64 (o - s.off)=o - s.off:=w64_in (by omega) (by omega)
 rw [wd,ws]
 unfold dataL at h
 have add:s.bg=true→(n - 2208988800) % 86400=0→(o - s.off=1∨o - s.off=-1)→Xq2h (TLV s.ls,false,0,()) ((n - 2208988800) / 86400 - 1,o - s.off,false,()) (fun r28 r29 r30 r31 r32=>K r29 r28.2.1 r28.2.2.1 o s.bg r30 r31 r32 m):=fun b z st=>by
  rw [if_neg (by rw [b]; simp),if_neg (by omega),if_neg (by omega)] at h
  refine kAdd ⟨s.ls,false,0⟩ ((n - 2208988800) / 86400 - 1,o - s.off,false) hl fun w f=>?_
  rw [b]; exact h w f
 cases b:s.bg
 ·rw [b,if_pos rfl] at h
  rw [if_pos (by simp)]
  by_cases e1:n - 2208988800=63072000
  ·rw [if_neg (by simp [e1])]
   by_cases e2:o=10
   ·rw [if_neg (by simp [e2]),if_pos (by simp)]
    rw [if_neg (by omega)] at h
    exact h _ _
   ·rw [if_pos (by simpa using e2)]
    rw [if_pos (.inr e2),b] at h
    exact h _ _
  ·rw [if_pos (by simpa using e1)]
   rw [if_pos (.inl e1),b] at h
   exact h _ _
 ·rw [if_neg (by simp),if_neg (by simp)]
  rw [b] at add
  by_cases z:(n - 2208988800) % 86400=0
  ·rw [if_neg (by simpa using z)]
   by_cases s1:o - s.off=1
   ·rw [if_neg (by simpa using s1)]
    exact add rfl z (.inl s1)
   ·rw [if_pos (by simpa using s1)]
    by_cases s2:o - s.off=-1
    ·rw [if_neg (by simpa using s2)]
     exact add rfl z (.inr s2)
    ·rw [if_pos (by simpa using s2)]
     rw [b,if_neg (by simp),if_neg (by omega),if_pos ⟨s1,s2⟩] at h
     have:=h false true
     rwa [b] at this
  ·rw [if_pos (by simpa using z)]
   rw [b,if_neg (by simp),if_pos z] at h
   have:=h false true
   rwa [b] at this
end Go.Proofs.YtdjldmolhkkipaaGreatDoor
end
section
set_option linter.unusedVariables false
set_option linter.unusedSimpArgs false
namespace Go.Proofs.YtdjldmolhkkipaaGreatDoor
open Go Go.Proofs.YtdjldmolhkkipaaGreatDoor.Eng Go.Proofs.YtdjldmolhkkipaaGreatDoor.Pl
set_option maxRecDepth 100000
set_option maxHeartbeats 2000000
theorem eLine (s:LS) (no:Nat) (r:LW) (m:List (Value×V)) (hm:Mp m s) (hr:r.ok=true→r.kd=[]→r.ns.length=2∧∀ i,i < 2→0≤r.ns.getD i 0∧r.ns.getD i 0≤9223372036854775807)
  (hf:0≤s.off∧s.off≤9223372036854775807) (hl:s.ls.length≤100000) (ws:List V) {K}
  (h:∀ w f m',Mp m' (lineL s no r).1→K (lineL s no r).2 false 0 (lineL s no r).1.off (lineL s no r).1.bg (TLV (lineL s no r).1.ls) w f m'):Xq1p (no:Int) (S r.kd,ws,NV r.ns,r.ok,()) (TLV s.ls) false 0 s.off s.bg m K:=by
 unfold Xq1p Yq1p
 dsimp only
 unfold lineL at h
 cases ok:r.ok
 ·rw [if_pos (by simp)]
  rw [if_pos ok] at h
  exact h _ _ _ hm
 rw [if_neg (by simp)]
 rw [if_neg (by rw [ok]; simp)] at h
 rw [kS_eq _ [35,36],kS_eq _ [35,64],kS_eq _ [35,104],kS_eq _ []]
 by_cases q:r.kd=kStamp
 ·rw [if_pos (by rw [q]; rfl),if_pos (by rw [q]; rfl)]
  rw [if_pos q] at h
  have hv:=hm.h1
  rw [← q] at hv
  refine asMv hv fun b=>?_
  by_cases p:s.a1 > 0
  ·rw [if_pos (decide_eq_true p)]
   rw [if_pos p] at h
   exact h _ _ _ hm
  ·rw [if_neg (dneg p),if_pos (mval_some hv)]
   rw [if_neg p] at h
   refine h _ _ _ ⟨?_,?_,?_⟩
   ·rw [q]; exact mput_same _ _ _ (by rw [← q]; exact mval_some hv)
   ·rw [q]; exact mput_other _ _ (by decide) _ _ _ hm.h2
   ·rw [q]; exact mput_other _ _ (by decide) _ _ _ hm.h3
 rw [if_neg (by simpa using q)]
 rw [if_neg q] at h
 clear q
 by_cases q:r.kd=kExp
 ·rw [if_pos (by rw [q]; rfl),if_pos (by rw [q]; rfl)]
  rw [if_pos q] at h
  have hv:=hm.h2
  rw [← q] at hv
  refine asMv hv fun b=>?_
  by_cases p:s.a2 > 0
  ·rw [if_pos (decide_eq_true p)]
   rw [if_pos p] at h
   exact h _ _ _ hm
  ·rw [if_neg (dneg p),if_pos (mval_some hv)]
   rw [if_neg p] at h
   refine h _ _ _ ⟨?_,?_,?_⟩
   ·rw [q]; exact mput_other _ _ (by decide) _ _ _ hm.h1
   ·rw [q]; exact mput_same _ _ _ (by rw [← q]; exact mval_some hv)
   ·rw [q]; exact mput_other _ _ (by decide) _ _ _ hm.h3
 rw [if_neg (by simpa using q)]
 rw [if_neg q] at h
 clear q
 by_cases q:r.kd=kHash
 ·rw [if_pos (by rw [q]; rfl)]
  rw [if_pos q] at h
  have hv:=hm.h3
  rw [← q] at hv
  refine asMv hv fun b=>?_
  by_cases p:s.a3 > 0
  ·rw [if_pos (decide_eq_true p)]
   rw [if_pos p] at h
   exact h _ _ _ hm
  ·rw [if_neg (dneg p),if_pos (mval_some hv)]
   rw [if_neg p] at h
   refine h _ _ _ ⟨?_,?_,?_⟩
   ·rw [q]; exact mput_other _ _ (by decide) _ _ _ hm.h1
   ·rw [q]; exact mput_other _ _ (by decide) _ _ _ hm.h2
   ·rw [q]; exact mput_same _ _ _ (by rw [← q]; exact mval_some hv)
 rw [if_neg (by simpa using q)]
 rw [if_neg q] at h
 clear q
 by_cases q:r.kd=[]
 ·rw [if_pos (by rw [q]; rfl)]
  rw [if_pos q] at h
  obtain ⟨l2,nb⟩:=hr ok q
  rw [NV_len,if_pos (by omega)]
  refine asNV (by omega) ?_
  rw [if_pos (by omega)]
  refine asNV (by omega) ?_
  refine eData s _ _ (nb 0 (by omega)) (nb 1 (by omega)) hf hl m fun w f=>?_
  obtain ⟨d1,d2,d3⟩:=data_a s (r.ns.getD 0 0) (r.ns.getD 1 0)
  exact h w f m ⟨by rw [d1]; exact hm.h1,by rw [d2]; exact hm.h2,by rw [d3]; exact hm.h3⟩
 ·rw [if_neg (by simpa using q)]
  rw [if_neg q] at h
  exact h _ _ _ hm
theorem wi_beq' (a b:W32):(wi a == wi b)=(a == b):=by
 by_cases h:a=b
 ·rw [h]; simp
 ·rw [show (a == b)=false by simpa using h]
  have:wi a≠wi b:=fun q=>h (BitVec.eq_of_toNat_eq (by unfold wi at q; omega))
  simpa using this
theorem same5e (w v:Nat→W32):(wi (w 0) == wi (v 0) && (wi (w 1) == wi (v 1) && (wi (w 2) == wi (v 2) && (wi (w 3) == wi (v 3) && (wi (w 4) == wi (v 4) && true)))))=same5L w v:=by
 rw [wi_beq',wi_beq',wi_beq',wi_beq',wi_beq']
 unfold same5L
 simp only [Bool.and_true,Bool.and_assoc]
theorem eParse (s:List UInt8) (hs:s.length≤30000) {K:Unit×Bool×Int×Unit→Int×Int×Unit→List V→Bool→Bool→Prop}
  (h:∀ o f,K ((),(lparseL s).1.has,(lparseL s).1.ex,()) ((lparseL s).2.1,(lparseL s).2.2,()) (TLV (lparseL s).1.ls) o f):Xq23 (S s) K:=by
 unfold Xq23 Yq23
 refine eRows s (by omega) ?_
 obtain ⟨b1,b2,b3⟩:=rows_bd s hs
 rw [RWV_len]
 refine lp_ind (fun x=>(rowsL s).length - x.1.2.2.2.2.2.2.2.2.1.toNat) (fun x=>∃ (j:Nat) (g:LS) (m:List (Value×V)),j≤(rowsL s).length∧Mp m g∧LI (rowsL s) j g∧goL j g ((rowsL s).drop j)=goL 0 ls0 (rowsL s) ∧
  x=((S s,(),(),((),()),(),(),(),(((rowsL s).length:Nat):Int),(j:Int),()),([],false,0,()),(0,0,()),(TLV g.ls,false,0,g.off,g.bg,(),()),m,(RWV (rowsL s),true,false),())) ?_
  ⟨0,ls0,[],Nat.zero_le _,⟨.inl ⟨rfl,rfl⟩,.inl ⟨rfl,rfl⟩,.inl ⟨rfl,rfl⟩⟩,ls0_LI _,rfl,rfl⟩
 rintro x ⟨j,g,m,hj,hm,hi,hg,rfl⟩ k hk
 unfold Lq23_0
 dsimp only
 rw [RWV_len]
 have hlen:=hi.len
 have hsl:(rowsL s).length≤s.length+1:=by rw [rows_len]; exact lines_len s
 by_cases e:j < (rowsL s).length
 ·rw [if_pos (decide_eq_true (by omega)),if_pos (by omega),Int.toNat_natCast]
  refine asR0 e (asR1 e (asR2 e (asR3 e ?_)))
  have w1:w64 ((j:Int)+1)=((j+1:Nat):Int):=by rw [w64_in (by omega) (by omega)]; omega
  rw [w1]
  have hd:(rowsL s).drop j=(rowsL s).getD j lw0 :: (rowsL s).drop (j+1):=by rw [getD_in _ _ _ e]; exact List.drop_eq_getElem_cons e
  rw [hd,goL] at hg
  have hrd:((rowsL s).getD j lw0).ok=true→((rowsL s).getD j lw0).kd=[]→((rowsL s).getD j lw0).ns.length=2∧∀ i,i < 2→0≤((rowsL s).getD j lw0).ns.getD i 0∧((rowsL s).getD j lw0).ns.getD i 0≤9223372036854775807:=by
   rw [rows_get s j e]; exact row_data _
  have hli:=hi.line fun a b=>(hrd a b).2 1 (by omega)
  refine eLine g (j+1) _ m hm hrd hi.off (by omega) _ fun w f m' hm'=>?_
  by_cases c:(lineL g (j+1) ((rowsL s).getD j lw0)).2=0
  ·rw [if_neg (by rw [c]; decide)]
   rw [if_neg (fun z=>z c)] at hg
   exact hk _ ⟨j+1,_,m',e,hm',hli,hg,rfl⟩ (by show (rowsL s).length - Int.toNat ((j+1:Nat):Int) < (rowsL s).length - Int.toNat (j:Int); omega)
  ·rw [if_pos (by rw [bne_iff_ne]; exact c)]
   rw [if_pos c] at hg
   have hp:lparseL s=(tb0,((j+1:Nat):Int),(lineL g (j+1) ((rowsL s).getD j lw0)).2):=by
    unfold lparseL
    rw [← hg,if_pos c]
    exact congrArg (fun z=>(tb0,z,(lineL g (j+1) ((rowsL s).getD j lw0)).2)) (show (j:Int)+1=((j+1:Nat):Int) by omega)
   unfold Xq1u Yq1u
   rw [hp] at h
   exact h true true
 ·have:j=(rowsL s).length:=by omega
  subst this
  rw [if_neg (dneg (by omega))]
  rw [List.drop_length,goL] at hg
  have hp:lparseL s=endL (linesL s) (rowsL s) g:=by
   unfold lparseL
   rw [← hg,if_neg (by simp)]
  rw [hp] at h
  unfold endL at h
  by_cases b:g.bg=false
  ·rw [if_pos (by simp [b])]
   rw [if_pos b] at h
   unfold Xq1u Yq1u
   rw [w64_in (n:=(((rowsL s).length:Nat):Int)+1) (by omega) (by omega)]
   exact h true true
  rw [if_neg (by simpa using b)]
  rw [if_neg b] at h
  refine asMv hm.h2 fun _=>?_
  by_cases q2:g.a2 > 0
  ·rw [if_pos (decide_eq_true q2)]
   obtain ⟨y1,y2,y3⟩:=hi.e q2
   have w2:w64 (g.a2 - 1)=((g.a2.toNat - 1:Nat):Int):=by rw [w64_in (by omega) (by omega)]; omega
   have hlt2:g.a2.toNat - 1 < (rowsL s).length:=by omega
   obtain ⟨n1,n2⟩:((rowsL s).getD (g.a2.toNat - 1) lw0).ns.length=1∧0≤((rowsL s).getD (g.a2.toNat - 1) lw0).ns.getD 0 0∧((rowsL s).getD (g.a2.toNat - 1) lw0).ns.getD 0 0≤9223372036854775807:=by
    rw [rows_get s _ hlt2] at y2 y3 ⊢
    exact row_exp _ y3 y2
   rw [w2,if_pos (by omega),Int.toNat_natCast]
   refine asR2 hlt2 ?_
   rw [NV_len,n1,if_pos (by omega)]
   refine asNV (by omega) ?_
   generalize ((rowsL s).getD (g.a2.toNat - 1) lw0).ns.getD 0 0=nx at *
   refine ePosix nx n2.2 ?_
   rw [if_neg (show ¬ nx < 0 by omega)]
   refine kRightT ⟨g.ls,true,nx - 2208988800⟩ (by dsimp only; omega) ?_
   cases rt:rightT ⟨g.ls,true,nx - 2208988800⟩
   ·rw [if_pos (by simp)]
    rw [if_pos ⟨q2,rt⟩] at h
    unfold Xq1u Yq1u
    exact h true true
   rw [if_neg (by simp)]
   rw [if_neg (fun z=>by rw [rt] at z; cases z.2)] at h
   simp only [if_pos q2] at h
   refine asMv hm.h3 fun _=>?_
   by_cases q3:g.a3 > 0
   ·rw [if_pos (decide_eq_true q3)]
    obtain ⟨z1,z2⟩:=hi.h q3
    refine kLines s (by omega) ?_
    have w3:w64 (g.a3 - 1)=((g.a3.toNat - 1:Nat):Int):=by rw [w64_in (by omega) (by omega)]; omega
    have hlt:g.a3.toNat - 1 < (linesL s).length:=by rw [← rows_len]; omega
    rw [w3,WV_len,if_pos (by omega),Int.toNat_natCast]
    refine asWd hlt ?_
    have hx2:=row_hash ((linesL s).getD (g.a3.toNat - 1) []) (by rw [← rows_get s _ (by omega)]; exact z2)
    have hxl:((linesL s).getD (g.a3.toNat - 1) []).length≤s.length:=by rw [getD_in _ _ _ hlt]; exact lines_mem_len s _ (List.getElem_mem _)
    have l2:2≤((linesL s).getD (g.a3.toNat - 1) []).length:=by
     have:=congrArg List.length hx2
     rw [List.length_take] at this
     have:kHash.length=2:=rfl
     omega
    rw [S_size,if_pos (by omega),if_pos (by omega),S_extract,Int.toNat_natCast,List.take_of_length_le (by rw [List.length_drop]; omega)]
    refine eHash _ (by rw [List.length_drop]; omega) (eHashed _ b1 b2 b3 (sWords _ ?_))
    simp only [lt]
    rw [same5e]
    cases sm:same5L (hashW (((linesL s).getD (g.a3.toNat - 1) []).drop 2)) (wordsOf (digest (hashedL (rowsL s))))
    ·rw [if_pos (by simp)]
     unfold Xq1u Yq1u
     rw [if_pos ⟨q3,sm⟩] at h
     exact h true true
    ·rw [if_neg (by simp)]
     rw [if_neg (fun z=>by rw [sm] at z; cases z.2)] at h
     exact h _ _
   ·rw [if_neg (dneg q3)]
    rw [if_neg (fun z=>q3 z.1)] at h
    exact h _ _
  ·rw [if_neg (dneg q2)]
   rw [if_neg (fun z=>q2 z.1)] at h
   simp only [if_neg q2] at h
   refine asMv hm.h3 fun _=>?_
   by_cases q3:g.a3 > 0
   ·rw [if_pos (decide_eq_true q3)]
    obtain ⟨z1,z2⟩:=hi.h q3
    refine kLines s (by omega) ?_
    have w3:w64 (g.a3 - 1)=((g.a3.toNat - 1:Nat):Int):=by rw [w64_in (by omega) (by omega)]; omega
    have hlt:g.a3.toNat - 1 < (linesL s).length:=by rw [← rows_len]; omega
    rw [w3,WV_len,if_pos (by omega),Int.toNat_natCast]
    refine asWd hlt ?_
    have hx2:=row_hash ((linesL s).getD (g.a3.toNat - 1) []) (by rw [← rows_get s _ (by omega)]; exact z2)
    have hxl:((linesL s).getD (g.a3.toNat - 1) []).length≤s.length:=by rw [getD_in _ _ _ hlt]; exact lines_mem_len s _ (List.getElem_mem _)
    have l2:2≤((linesL s).getD (g.a3.toNat - 1) []).length:=by
     have:=congrArg List.length hx2
     rw [List.length_take] at this
     have:kHash.length=2:=rfl
     omega
    rw [S_size,if_pos (by omega),if_pos (by omega),S_extract,Int.toNat_natCast,List.take_of_length_le (by rw [List.length_drop]; omega)]
    refine eHash _ (by rw [List.length_drop]; omega) (eHashed _ b1 b2 b3 (sWords _ ?_))
    simp only [lt]
    rw [same5e]
    cases sm:same5L (hashW (((linesL s).getD (g.a3.toNat - 1) []).drop 2)) (wordsOf (digest (hashedL (rowsL s))))
    ·rw [if_pos (by simp)]
     unfold Xq1u Yq1u
     rw [if_pos ⟨q3,sm⟩] at h
     exact h true true
    ·rw [if_neg (by simp)]
     rw [if_neg (fun z=>by rw [sm] at z; cases z.2)] at h
     exact h _ _
   ·rw [if_neg (dneg q3)]
    rw [if_neg (fun z=>q3 z.1)] at h
    exact h _ _
end Go.Proofs.YtdjldmolhkkipaaGreatDoor
end
section
set_option linter.unusedVariables false
set_option linter.unusedSimpArgs false
namespace Go.Proofs.YtdjldmolhkkipaaGreatDoor
open Go Go.Proofs.YtdjldmolhkkipaaGreatDoor.Eng Go.Proofs.YtdjldmolhkkipaaGreatDoor.Pl
set_option maxRecDepth 100000
set_option maxHeartbeats 2000000
theorem kSame (a b:Tb) (hl:a.ls.length≤1000000) {K} (h:K (decide (a=b))):Xq10 (TLV a.ls,a.has,a.ex,()) (TLV b.ls,b.has,b.ex,()) K:=by
 unfold Xq10 Yq10
 dsimp only
 rw [TLV_len,TLV_len]
 have ne:a≠b→K false:=fun hn=>by rw [decide_eq_false hn] at h; exact h
 by_cases e1:a.ls.length=b.ls.length
 ·rw [if_neg (by simp [e1])]
  by_cases e2:a.has=b.has
  ·rw [if_neg (by simp [e2])]
   by_cases e3:a.ex=b.ex
   ·rw [if_neg (by simp [e3])]
    refine lp_ind (fun x=>a.ls.length - x.1.2.2.2.1.toNat) (fun x=>∃ j:Nat,j≤a.ls.length∧a.ls.take j=b.ls.take j∧x=(((),(),false,(j:Int),()),(TLV a.ls,a.has,a.ex,()),(TLV b.ls,b.has,b.ex,()),())) ?_ ⟨0,by omega,rfl,rfl⟩
    rintro x ⟨j,hj,ht,rfl⟩ k hk
    unfold Lq10_0
    dsimp only
    rw [TLV_len,TLV_len,Int.toNat_natCast]
    by_cases e:j < a.ls.length
    ·rw [if_pos (decide_eq_true (by omega)),if_pos (by omega)]
     refine asL1 e (asL2 e (asL3 e ?_))
     rw [if_pos (by omega)]
     have e':j < b.ls.length:=by omega
     refine asL1 e' (asL2 e' (asL3 e' ?_))
     simp only [lt]
     by_cases q:a.ls[j]=b.ls[j]
     ·rw [if_neg (by simp [q])]
      have w1:w64 ((j:Int)+1)=((j+1:Nat):Int):=by rw [w64_in (by omega) (by omega)]; omega
      rw [w1]
      refine hk _ ⟨j+1,e,?_,rfl⟩ (by show a.ls.length - Int.toNat ((j+1:Nat):Int) < a.ls.length - Int.toNat (j:Int); omega)
      rw [List.take_succ_eq_append_getElem e,List.take_succ_eq_append_getElem e',ht,q]
     ·have:(!((a.ls[j]).1 == (b.ls[j]).1 && ((a.ls[j]).2.1 == (b.ls[j]).2.1 && ((a.ls[j]).2.2 == (b.ls[j]).2.2 && true))))=true:=by
       rw [Bool.not_eq_true']
       cases hh:((a.ls[j]).1 == (b.ls[j]).1 && ((a.ls[j]).2.1 == (b.ls[j]).2.1 && ((a.ls[j]).2.2 == (b.ls[j]).2.2 && true)))
       ·rfl
       ·exfalso
        simp only [Bool.and_eq_true,beq_iff_eq,and_true] at hh
        exact q (Prod.ext hh.1 (Prod.ext hh.2.1 hh.2.2))
      rw [if_pos this]
      refine ne fun hab=>q ?_
      subst hab; rfl
    ·rw [if_neg (dneg (by omega))]
     have hj':j=a.ls.length:=by omega
     rw [hj',List.take_length,e1,List.take_length] at ht
     have:a=b:=by
      cases a; cases b; simp_all
     rw [decide_eq_true this] at h; exact h
   ·rw [if_pos (by simpa using e3)]
    exact ne fun hab=>e3 (by rw [hab])
  ·rw [if_pos (by simpa using e2)]
   exact ne fun hab=>e2 (by rw [hab])
 ·rw [if_pos (by simp; omega)]
  exact ne fun hab=>e1 (by rw [hab])
end Go.Proofs.YtdjldmolhkkipaaGreatDoor
end
section
set_option linter.unusedVariables false
set_option linter.unusedSimpArgs false
namespace Go.Proofs.YtdjldmolhkkipaaGreatDoor
open Go Go.Proofs.YtdjldmolhkkipaaGreatDoor.Eng Go.Proofs.YtdjldmolhkkipaaGreatDoor.Pl
set_option maxRecDepth 100000
set_option maxHeartbeats 2000000
theorem S_cat (a b:List UInt8):S a++ByteArray.mk b.toArray=S (a++b):=S_append a b
theorem ePair (p o:Int) (hp:0≤p+2208988800∧p≤9223372034645786000) (ho:0≤o∧o≤1000000000) {K:ByteArray→Prop} (h:K (S (lpairL p o++[10]))):Xq2b p o K:=by
 unfold Xq2b Yq2b
 have i1:=itoaK_len (p+2208988800)
 have i2:=itoaK_len o
 refine eNtp p (by omega) hp.2 (sitoa _ (by omega) (by omega) ?_)
 rw [S_size,if_neg (by omega)]
 refine sitoa _ (by omega) (by omega) ?_
 rw [S_cat _ [9],S_size,S_size,if_neg (by rw [List.length_append,List.length_singleton]; omega)]
 simp only [lt]
 rw [S_append,S_size,if_neg (by rw [List.length_append,List.length_append,List.length_singleton]; omega),S_cat _ [10]]
 have:itoaK (p+2208988800)++[9]++itoaK o++[10]=lpairL p o++[10]:=by unfold lpairL; simp
 rw [this]; exact h
theorem ntext_len (w:Nat→W32):(ntextL w).length≤44:=by
 have pl:∀ i,(partW w i).length≤8:=fun i=>by unfold partW; rw [List.length_take]; omega
 unfold ntextL
 have:=pl 0; have:=pl 1; have:=pl 2; have:=pl 3; have:=pl 4
 simp [List.range,List.range.loop,Lib.join]
 omega
theorem lpair_len (p o:Int):(lpairL p o).length≤43:=by
 have i1:=itoaK_len (p+2208988800)
 have i2:=itoaK_len o
 unfold lpairL
 rw [List.length_append,List.length_cons]; omega
theorem textOf_cons (x:List UInt8) (L:List (List UInt8)):textOf (x :: L)=x++[10]++textOf L:=by simp [textOf]
theorem textOf_app (A B:List (List UInt8)):textOf (A++B)=textOf A++textOf B:=by simp [textOf]
theorem offs_len:∀ (q:List LR) (o:Int),(textOf (offsL o q)).length≤44 * q.length
 | [],o=>by simp [offsL,textOf]
 | l :: q,o=>by
  have:=offs_len q (o+l.2.1)
  have:=lpair_len ((l.1+1) * 86400) (o+l.2.1)
  rw [offsL,textOf_cons,List.length_append,List.length_append,List.length_singleton,List.length_cons]
  omega
def heads (t:Tb) (wh:Int):List (List UInt8):=(kStamp++9 :: itoaK wh) :: ((if t.has=true then [kExp++9 :: itoaK (t.ex+2208988800)] else [])++[lpairL 63072000 10])
theorem ahead_eq (t:Tb) (wh:Int):textOf (Pl.ahead t wh)=textOf (heads t wh)++textOf (offsL 10 t.ls):=by
 unfold Pl.ahead heads
 rw [← textOf_app]
 simp
theorem heads_len (t:Tb) (wh:Int):(textOf (heads t wh)).length≤200:=by
 have i1:=itoaK_len wh
 have i2:=itoaK_len (t.ex+2208988800)
 have i3:=lpair_len 63072000 10
 unfold heads
 rw [textOf_cons,textOf_app]
 split
 ·simp [textOf] at *; omega
 ·simp [textOf] at *; omega
theorem ltextB_len (t:Tb) (wh:Int) (hl:t.ls.length≤300):(textOf (Pl.ahead t wh)).length≤13400∧(ltextB t wh).length≤13500:=by
 have h1:=heads_len t wh
 have h2:=offs_len t.ls 10
 have h3:(textOf (Pl.ahead t wh)).length≤13400:=by rw [ahead_eq,List.length_append]; omega
 refine ⟨h3,?_⟩
 have:=ntext_len (wordsOf (hashL (textOf (Pl.ahead t wh))))
 unfold ltextB
 simp only [List.length_append,List.length_cons,List.length_nil]
 omega
theorem eTextLoop (t:Tb) (wh:Int) (hr:rightT t=true) (h0:0≤wh) (hl:t.ls.length≤300) {K:ByteArray→Bool→Prop} (h:K (S (ltextL t wh).1) (ltextL t wh).2) :
  lp (Lq2c_0 Xq2b Xq26 Xq25 Xq2e K) ((ByteArray.mk #[],false,S (textOf (heads t wh)),10,TLV t.ls,((t.ls.length:Nat):Int),0,()),()):=by
 have hall:=checkG_all _ _ _ (right_0 hr).1
 have hb:=heads_len t wh
 obtain ⟨hb1,hb2⟩:=ltextB_len t wh hl
 have no:offOk 10 t.ls=false→K (ByteArray.mk #[]) false:=fun q=>by
  unfold ltextL at h
  rw [if_neg (fun z=>by rw [q] at z; cases z.2.2)] at h
  exact h
 refine lp_ind (fun x=>t.ls.length - x.1.2.2.2.2.2.2.1.toNat) (fun x=>∃ (j:Nat) (o:Int) (B:List UInt8),j≤t.ls.length∧0≤o∧o≤10+j∧B.length≤200+44 * j∧offOk 10 t.ls=offOk o (t.ls.drop j) ∧
  B++textOf (offsL o (t.ls.drop j))=textOf (Pl.ahead t wh)∧x=((ByteArray.mk #[],false,S B,o,TLV t.ls,((t.ls.length:Nat):Int),(j:Int),()),())) ?_
  ⟨0,10,_,Nat.zero_le _,by omega,by omega,by omega,rfl,(ahead_eq t wh).symm,rfl⟩
 rintro x ⟨j,o,B,hj,o0,o1,hB,hk1,hk2,rfl⟩ k hk
 unfold Lq2c_0
 dsimp only
 rw [TLV_len,Int.toNat_natCast]
 by_cases e:j < t.ls.length
 ·rw [if_pos (decide_eq_true (by omega)),if_pos (by omega)]
  refine asL1 e (asL2 e (asL3 e ?_))
  obtain ⟨d1,d2,d3⟩:=hall t.ls[j] (List.getElem_mem e)
  have hd:t.ls.drop j=t.ls[j] :: t.ls.drop (j+1):=List.drop_eq_getElem_cons e
  rw [hd,offOk] at hk1
  rw [hd,offsL,textOf_cons] at hk2
  have ws:w64 (o+(t.ls[j]).2.1)=o+(t.ls[j]).2.1:=w64_in (by omega) (by omega)
  rw [ws]
  cases rl:(t.ls[j]).2.2
  ·rw [if_neg (by simp)]
   by_cases ng:o+(t.ls[j]).2.1 < 0
   ·rw [if_pos (decide_eq_true ng)]
    exact no (by rw [hk1,decide_eq_false (by omega)]; simp)
   ·rw [if_neg (dneg ng)]
    rw [rl,decide_eq_true (show 0≤o+(t.ls[j]).2.1 by omega)] at hk1
    simp only [lt]
    rw [w64_in (n:=(t.ls[j]).1+1) (by omega) (by omega),w64_in (n:=((t.ls[j]).1+1) * 86400) (by omega) (by omega)]
    refine ePair _ _ (by omega) (by omega) ?_
    have hp:=lpair_len (((t.ls[j]).1+1) * 86400) (o+(t.ls[j]).2.1)
    rw [S_size,S_size,if_neg (by rw [List.length_append,List.length_singleton]; omega),S_append]
    have w1:w64 ((j:Int)+1)=((j+1:Nat):Int):=by rw [w64_in (by omega) (by omega)]; omega
    rw [w1]
    refine hk _ ⟨j+1,o+(t.ls[j]).2.1,_,e,by omega,by omega,by rw [List.length_append,List.length_append,List.length_singleton]; omega,by simpa using hk1,by rw [List.append_assoc]; exact hk2,rfl⟩ (by show t.ls.length - Int.toNat ((j+1:Nat):Int) < t.ls.length - Int.toNat (j:Int); omega)
  ·rw [if_pos rfl]
   exact no (by rw [hk1,rl]; rfl)
 ·have:j=t.ls.length:=by omega
  subst this
  rw [if_neg (dneg (by omega))]
  rw [List.drop_length] at hk1 hk2
  rw [offOk] at hk1
  rw [offsL,show textOf []=[] from rfl,List.append_nil] at hk2
  unfold ltextL at h
  rw [if_pos ⟨hr,h0,hk1⟩] at h
  subst hk2
  have hn:=ntext_len (wordsOf (hashL (textOf (Pl.ahead t wh))))
  rw [S_size,if_neg (by omega)]
  simp only [lt]
  rw [S_cat _ [35,104],S_size,if_neg (by simp only [List.length_append,List.length_cons,List.length_nil]; omega)]
  refine eHashS _ (by omega) (sWords _ (eNtext _ ?_))
  rw [S_cat _ [9],S_size,S_size,if_neg (by simp only [List.length_append,List.length_cons,List.length_nil]; omega),S_append,S_size,if_neg (by simp only [List.length_append,List.length_cons,List.length_nil]; omega),S_cat _ [10]]
  have:textOf (Pl.ahead t wh)++[35,104]++[9]++ntextL (wordsOf (hashL (textOf (Pl.ahead t wh))))++[10]=ltextB t wh:=by unfold ltextB; simp
  rw [this]; exact h
theorem eText (t:Tb) (wh:Int) (hw:wh≤9223372036854775807) (hl:t.ls.length≤300) {K:ByteArray→Bool→Prop} (h:K (S (ltextL t wh).1) (ltextL t wh).2):Xq2c (TLV t.ls,t.has,t.ex,()) wh K:=by
 unfold Xq2c Yq2c
 refine kRightT t (by omega) ?_
 cases rt:rightT t
 ·rw [if_pos (by simp)]
  unfold ltextL at h
  rw [if_neg (fun z=>by rw [rt] at z; cases z.1)] at h
  exact h
 rw [if_neg (by simp)]
 by_cases w0:wh < 0
 ·rw [if_pos (decide_eq_true w0)]
  unfold ltextL at h
  rw [if_neg (fun z=>by omega)] at h
  exact h
 rw [if_neg (dneg w0)]
 have hx:=right_ex rt
 have i1:=itoaK_len wh
 have i2:=itoaK_len (t.ex+2208988800)
 have i3:=lpair_len 63072000 10
 refine sitoa _ (by omega) (by omega) ?_
 rw [S_size,if_neg (by omega)]
 simp only [lt]
 have c1:ByteArray.mk #[(35:UInt8),(36:UInt8),(9:UInt8)]++S (itoaK wh)=S ([35,36,9]++itoaK wh):=S_append [35,36,9] _
 rw [c1,S_size,if_neg (by simp only [List.length_append,List.length_cons,List.length_nil]; omega),S_cat _ [10]]
 rw [TLV_len]
 have loop:=eTextLoop t wh rt (by omega) hl h
 unfold heads at loop
 cases hh:t.has
 ·rw [if_neg (by simp)]
  rw [hh] at loop
  refine ePair _ _ (by omega) (by omega) ?_
  rw [S_size,S_size,if_neg (by simp only [List.length_append,List.length_cons,List.length_nil]; omega),S_append]
  have e:textOf ((kStamp++9 :: itoaK wh) :: ((if false=true then [kExp++9 :: itoaK (t.ex+2208988800)] else [])++[lpairL 63072000 10]))=[35,36,9]++itoaK wh++[10]++(lpairL 63072000 10++[10]):=by simp [textOf]
  rw [e] at loop
  exact loop
 ·rw [if_pos rfl]
  rw [hh] at loop
  have:=hx.2 hh
  refine eNtp t.ex (by omega) (by omega) (sitoa _ (by omega) (by omega) ?_)
  rw [S_size,if_neg (by omega)]
  have c2:ByteArray.mk #[(35:UInt8),(64:UInt8),(9:UInt8)]++S (itoaK (t.ex+2208988800))=S ([35,64,9]++itoaK (t.ex+2208988800)):=S_append [35,64,9] _
  rw [c2,S_size,if_neg (by simp only [List.length_append,List.length_cons,List.length_nil]; omega),S_cat _ [10],S_size,S_size,if_neg (by simp only [List.length_append,List.length_cons,List.length_nil]; omega),S_append]
  refine ePair _ _ (by omega) (by omega) ?_
  rw [S_size,S_size,if_neg (by simp only [List.length_append,List.length_cons,List.length_nil]; omega),S_append]
  have e:textOf ((kStamp++9 :: itoaK wh) :: ((if true=true then [kExp++9 :: itoaK (t.ex+2208988800)] else [])++[lpairL 63072000 10]))=[35,36,9]++itoaK wh++[10]++([35,64,9]++itoaK (t.ex+2208988800)++[10])++(lpairL 63072000 10++[10]):=by simp [textOf]
  rw [e] at loop
  exact loop
theorem eParseAt (s:List UInt8) (r:Tb×Int×Int) (e:lparseL s=r) (hs:Nat.ble s.length 30000=true) {K} (h:∀ o f,K ((),r.1.has,r.1.ex,()) (r.2.1,r.2.2,()) (TLV r.1.ls) o f):Xq23 (S s) K:=by
 subst e; exact eParse s (Nat.le_of_ble_eq_true hs) h
theorem eTextAt (t:Tb) (wh:Int) (r:List UInt8×Bool) (e:ltextL t wh=r) (hl:Nat.ble t.ls.length 300=true) (hw:wh≤9223372036854775807) {K:ByteArray→Bool→Prop} (h:K (S r.1) r.2):Xq2c (TLV t.ls,t.has,t.ex,()) wh K:=by
 subst e; exact eText t wh hw (Nat.le_of_ble_eq_true hl) h
theorem eSameAt (a b:Tb) (r:Bool) (e:decide (a=b)=r) (hl:Nat.ble a.ls.length 1000000=true) {K} (h:K r):Xq10 (TLV a.ls,a.has,a.ex,()) (TLV b.ls,b.has,b.ex,()) K:=by
 subst e; exact kSame a b (Nat.le_of_ble_eq_true hl) h
def tbL:Tb:=⟨[(911,1,false),(1095,1,false)],true,1498608000⟩
def realL:List UInt8:=List.append [35,9,114,101,109,97,114,107,10,35,36,9,32,51,54,55,54,57,50,52,56,48,48,10,35,10,35,64,9,51,55,48,55,53,57,54,56,48,48,10,35,10,50,50,55,50,48,54,48,56,48,48,9,49,48] [9,35,32,49,32,74,97,110,32,49,57,55,50,10,50,50,56,55,55,56,53,54,48,48,9,49,49,9,35,32,49,32,74,117,108,32,49,57,55,50,13,10,50,51,48,51,54,56,51,50,48,48,32,49,50,10]
theorem sm_text:ltextL tbL 7=(ltextB tbL 7,true):=by unfold ltextL; rw [if_pos ⟨by kernel_rfl,by decide,by kernel_rfl⟩]
theorem eSmall {K:Bool→Prop} (h:K true):Xq0x K:=by
 rw [Xq0x,Yq0x,Xq0y,Yq0y]
 refine eParseAt realL (tbL,0,0) (by kernel_rfl) (by kernel_rfl) fun o1 f1=>?_
 refine eParseAt _ (tb0,2,6) (by kernel_rfl) (by kernel_rfl) fun o2 f2=>?_
 refine eParseAt _ (tb0,3,9) (by kernel_rfl) (by kernel_rfl) fun o3 f3=>?_
 refine eParseAt _ (tb0,2,2) (by kernel_rfl) (by kernel_rfl) fun o4 f4=>?_
 refine eParseAt _ (tb0,2,5) (by kernel_rfl) (by kernel_rfl) fun o5 f5=>?_
 rw [Yq0y]
 rw [if_neg (by
  have:realL.length≤1000:=Nat.le_of_ble_eq_true (by kernel_rfl)
  show ¬ (((S realL).size+13:Nat):Int) > 9223372036854775807
  rw [S_size]; omega)]
 simp only [lt]
 refine eParseAt (realL++[35,104,32,49,32,50,32,51,32,52,32,53,10]) (tb0,9,3) (by kernel_rfl) (by kernel_rfl) fun o6 f6=>?_
 refine eTextAt tbL 7 _ sm_text (by kernel_rfl) (by decide) ?_
 refine eParseAt _ (tbL,0,0) (lparse_text (by kernel_rfl) (by decide) (by decide) (by kernel_rfl)) (Nat.ble_eq_true_of_le (Nat.le_trans (ltextB_len tbL 7 (by decide)).2 (by decide))) fun o7 f7=>?_
 refine eTextAt tbL (-1) ([],false) (by kernel_rfl) (by kernel_rfl) (by decide) ?_
 refine eSameAt tbL tbL true (by kernel_rfl) (by kernel_rfl) ?_
 simp only [beq_self_eq_true,Bool.and_self,Bool.and_true,if_true]
 refine eSameAt tbL tbL true (by kernel_rfl) (by kernel_rfl) ?_
 simp only [beq_self_eq_true,Bool.and_self,Bool.and_true,Bool.not_false,if_true,lt]
 exact h
end Go.Proofs.YtdjldmolhkkipaaGreatDoor
end
section
set_option linter.unusedVariables false
set_option linter.unusedSimpArgs false
namespace Go.Proofs.YtdjldmolhkkipaaGreatDoor
open Go Go.Proofs.YtdjldmolhkkipaaGreatDoor.Eng Go.Proofs.YtdjldmolhkkipaaGreatDoor.Pl
set_option maxRecDepth 100000
set_option maxHeartbeats 4000000
theorem bAtD (l:List UInt8) (i:Nat) (h:i < l.length) (x:UInt8):(Eng.bAt (S l) i == (x.toNat:Int))=(l[i] == x):=by
 rw [bAt_S,getD_in _ _ _ h,Bool.eq_iff_iff,beq_iff_eq,beq_iff_eq]
 constructor
 ·intro e; exact u8_eq (by omega)
 ·intro e; rw [e]
end Go.Proofs.YtdjldmolhkkipaaGreatDoor
end
section
set_option linter.unusedVariables false
set_option linter.unusedSimpArgs false
namespace Go.Proofs.YtdjldmolhkkipaaGreatDoor
open Go Go.Proofs.YtdjldmolhkkipaaGreatDoor.Eng Go.Proofs.YtdjldmolhkkipaaGreatDoor.Pl
def i64 (n:Int):Prop:=-9223372036854775808≤n∧n≤9223372036854775807
theorem not_true (b:Bool):((!b)=true)=¬ (b=true):=by cases b <;> simp
end Go.Proofs.YtdjldmolhkkipaaGreatDoor
end
section
set_option linter.unusedVariables false
set_option linter.unusedSimpArgs false
namespace Go.Proofs.YtdjldmolhkkipaaGreatDoor
open Go Go.Proofs.YtdjldmolhkkipaaGreatDoor.Eng Go.Proofs.YtdjldmolhkkipaaGreatDoor.Pl
theorem rleap (y:Int) {K} (h:K (leapY y)):Xq18 y K:=by
 unfold Xq18 Yq18
 obtain ⟨t1,t2,t3⟩:=tmod_leap y
 have fin:∀ z:Bool,(z=true↔(y % 4=0∧(y % 100≠0∨y % 400=0)))→K z:=fun z hz=>cast (congrArg K (Bool.eq_iff_iff.2 ((leapY_iff y).trans hz.symm))) h
 simp only [beq_iff_eq,bne_iff_ne,ne_eq,t1,t2]
 refine ifC (fun h1=>ifC (fun h2=>fin _ ?_) fun h2=>fin _ ?_) fun h1=>fin _ ?_
 ·simp; omega
 ·rw [beq_iff_eq,t3]; omega
 ·rw [beq_iff_eq,t3]; omega
theorem rdays (y m:Int) (h1:1≤m) (h2:m≤12) {K} (h:K (dim y m)):Xq12 y m K:=by
 unfold Xq12 Yq12
 rw [w64_in (by omega) (by omega)]
 rcases month_cases h1 h2 with rfl | rfl | rfl | rfl | rfl | rfl | rfl | rfl | rfl | rfl | rfl | rfl
 all_goals first
  | exact ifF (by decide) (ifT (by decide) h)
  |(refine ifT rfl (rleap _ ?_)
    unfold dim at h
    rw [if_pos rfl] at h
    refine ifC (fun hl=>?_) fun hl=>ifT (by decide) ?_
    ·rw [if_pos hl] at h; exact h
    ·rw [if_neg hl] at h; exact h)
theorem rfirst (y:Int) (h1:1≤y) (h2:y≤10001) {K} (h:K (fst y)):Xq0r y K:=by
 unfold Xq0r Yq0r
 unfold fst at h
 simp only [lt]
 simp (disch:=omega) only [w64_in,Int.tdiv_eq_ediv_of_nonneg]
 exact h
theorem cum_one (y:Int):cum y 1=0:=by unfold cum cum0; simp
theorem cum_bd (y m:Int) (h1:1≤m) (h2:m≤12):0≤cum y m∧cum y m≤335:=by
 unfold cum cum0
 rcases month_cases h1 h2 with rfl | rfl | rfl | rfl | rfl | rfl | rfl | rfl | rfl | rfl | rfl | rfl
 all_goals (simp only [if_true,if_false,Int.reduceEq]; split <;> omega)
theorem rdiv (a b:Int) (h0:-9223372036854775808≤a) (h1:a≤9223372036854775807) (hb:1≤b) (hb':b≤9223372036854775807) {K} (h:K (a / b) (a % b) true):Xq1r a b K:=sdiv a b h0 h1 hb hb' h
theorem rdate (n:Int) {K} (h:if -719162≤n∧n≤2932896 then K (yearP n) (monP n) (dayP n) true else K 0 0 0 false):Xq1d n K:=by
 unfold Xq1d Yq1d
 simp only [decide_eq_true_eq,gt_iff_lt,lt]
 by_cases e:-719162≤n∧n≤2932896
 ·rw [if_pos e] at h
  refine ifF (by omega) (ifF (by omega) ?_)
  obtain ⟨hv,hn⟩:=num_date e.1 e.2
  have hb:=num_bd hv
  rw [hn] at hb
  obtain ⟨v1,v2,v3,v4,v5,v6⟩:=hv
  generalize yearP n=y at *
  generalize monP n=m at *
  generalize dayP n=d at *
  rw [show n - -719162=n+719162 by omega,w64_in (n:=n+719162) (by omega) (by omega),Int.tdiv_eq_ediv_of_nonneg (by omega),w64_in (n:=(n+719162) / 366) (by omega) (by omega),w64_in (by omega) (by omega)]
  have hy0:(n+719162) / 366+1≤y:=by
   have h2:=hb.2
   unfold fst at h2
   omega
  refine lp_at (fun j:Nat=>((n,(0:Int),(0:Int),(0:Int),false,(n+719162) / 366+1+(j:Int),()),())) (y - ((n+719162) / 366+1)).toNat (by simp) fun j hj k hk=>?_
  unfold Lq1d_0
  simp only [decide_eq_true_eq,ge_iff_le]
  rw [w64_in (by omega) (by omega)]
  refine rfirst _ (by omega) (by omega) ?_
  by_cases hlt:(n+719162) / 366+1+(j:Int) < y
  ·have hle:=fst_le (y:=(n+719162) / 366+1+(j:Int)+1) (z:=y) (by omega)
   refine ifT (by omega) ?_
   have:=hk (by omega)
   rw [show (n+719162) / 366+1+((j+1:Nat):Int)=(n+719162) / 366+1+(j:Int)+1 by omega] at this
   exact this
  ·have ey:(n+719162) / 366+1+(j:Int)=y:=by omega
   rw [ey]
   refine ifF (by omega) (rfirst _ (by omega) (by omega) ?_)
   have hf:=fst_bd v1 v2
   rw [w64_in (n:=n - fst y) (by omega) (by omega)]
   refine lp_at (fun i:Nat=>(((0:Int),(0:Int),(0:Int),false,y,n - fst y - cum y (1+i),(1+i:Int),()),())) (m - 1).toNat (by simp [cum_one]) fun i hi k hk=>?_
   unfold Lq1d_1
   simp only [decide_eq_true_eq,ge_iff_le]
   have hnum:n=fst y+cum y m+d - 1:=by rw [← hn]; rfl
   have hc:=cum_bd y (1+i) (by omega) (by omega)
   have hcm:=cum_bd y m (by omega) (by omega)
   have hdm:=dim_bd y m
   refine rdays _ _ (by omega) (by omega) ?_
   by_cases hl2:(1+i:Int) < m
   ·have hs:=cum_succ y (1+i) (by omega) (by omega)
    rw [if_neg (by omega)] at hs
    have mono:∀ (q:Nat) (a:Int),1≤a→a+q≤12→cum y a≤cum y (a+q):=by
     intro q
     induction q with
     | zero=>intro a _ _; simp
     | succ q ih =>
      intro a h1 h2
      have h3:=ih a h1 (by omega)
      have h4:=cum_mono y (a+q) (by omega) (by omega)
      rw [show a+((q+1:Nat):Int)=a+q+1 by omega]; omega
    have hm:=mono (m - (1+i+1)).toNat (1+i+1) (by omega) (by omega)
    rw [show (1+i+1:Int)+(((m - (1+i+1)).toNat:Nat):Int)=m by omega] at hm
    have hc2:=cum_bd y (1+i+1) (by omega) (by omega)
    refine ifT (by omega) (rdays _ _ (by omega) (by omega) ?_)
    have:=hk (by omega)
    rw [w64_in (by omega) (by omega),w64_in (by omega) (by omega)]
    rw [show (1:Int)+((i+1:Nat):Int)=1+i+1 by omega] at this
    rw [show n - fst y - cum y (1+i) - dim y (1+i)=n - fst y - cum y (1+i+1) by omega]
    exact this
   ·have em:(1+i:Int)=m:=by omega
    rw [em]
    refine ifF (by omega) ?_
    rw [w64_in (by omega) (by omega),show n - fst y - cum y m+1=d by omega]; exact h
 ·rw [if_neg e] at h
  exact ifC (fun _=>h) fun _=>ifT (by omega) h
end Go.Proofs.YtdjldmolhkkipaaGreatDoor
end
section
set_option linter.unusedVariables false
set_option linter.unusedSimpArgs false
namespace Go.Proofs.YtdjldmolhkkipaaGreatDoor
open Go Go.Proofs.YtdjldmolhkkipaaGreatDoor.Eng Go.Proofs.YtdjldmolhkkipaaGreatDoor.Pl
set_option maxRecDepth 100000
set_option maxHeartbeats 2000000
theorem big {n:Nat} {P:Prop} (hn:n≤1000000000) (h:P):if ((n:Nat):Int) > 9223372036854775807 then False else P:=by
 rw [if_neg (by omega)]; exact h
theorem room (n k:Nat) (hn:n≤1000000000) (hk:k≤64):roomOk n k=true:=by
 unfold roomOk; rw [decide_eq_true_eq]
 have:(n+1000) * k≤1000001000 * 64:=Nat.mul_le_mul (by omega) hk
 omega
theorem qTrim (l:List UInt8) (hl:l.length≤1000000000) {K} (h:K (S (trimR l))):Xq0c (S l) K:=by
 unfold Xq0c Yq0c
 unfold trimR at h
 simp only [S_size,decide_eq_true_eq,lt]
 by_cases e:0 < l.length
 ·have w1:w64 ((l.length:Int) - 1)=((l.length - 1:Nat):Int):=by rw [w64_in (by omega) (by omega)]; omega
  rw [if_pos (by omega),w1,if_pos (by omega),Int.toNat_natCast,show ((13:Int))=(((13:UInt8).toNat:Nat):Int) from rfl,bAtD _ _ (by omega),S_extract,List.drop_zero,Nat.sub_zero]
  have e2:l.getLast? = some (l[l.length - 1]'(by omega)):=by rw [List.getLast?_eq_getElem?,List.getElem?_eq_getElem (by omega)]
  rw [e2,List.dropLast_eq_take] at h
  by_cases e3:l[l.length - 1]'(by omega)=13
  ·rw [if_pos (by simp [e3]),if_pos (by omega),if_pos (by omega)]
   rw [if_pos (by rw [e3])] at h; exact h
  ·rw [if_neg (by simp [e3])]
   rw [if_neg (by simp [e3])] at h; exact h
 ·have:l=[]:=by cases l <;> simp at e ⊢
  subst this
  rw [if_neg (by simp)]; exact h
theorem lines_cons (a r:List UInt8) (h:(10:UInt8)∉a):linesL (a++10 :: r)=trimR a :: linesL r:=by
 unfold linesL
 rw [spl_app 10 a r h]
 have hne:=spl_ne 10 r
 match hs:spl 10 r with
 | []=>exact absurd hs hne
 | x :: t =>
  rw [List.getLast?_cons_cons,List.dropLast_cons_cons]
  split <;> rfl
theorem lines_last (a:List UInt8) (h:(10:UInt8)∉a):linesL a=if a=[] then [] else [trimR a]:=by
 have:spl 10 a=[a]:=by rw [← splN_spl 10 a.length a List.count_le_length,splN_no 10 _ a h]
 unfold linesL
 rw [this]
 by_cases e:a=[]
 ·subst e; rfl
 ·rw [if_neg (by simp [e]),if_neg e]; rfl
theorem WV_snoc (d:List (List UInt8)) (w:List UInt8):WV d++[V.c (.string (S w))]=WV (d++[w]):=by simp [WV]
theorem qSplit (l:List UInt8) (hl:l.length≤1000000) {K} (h:K (WV (linesL l)) true false):Xq0j (S l) K:=by
 unfold Xq0j Yq0j
 refine lp_ind (fun x=>l.length - x.1.2.2.2.2.1.toNat) (fun x=>∃ (i f:Nat) (d:List (List UInt8)),f≤i∧i≤l.length∧d.length≤i∧(∀ c∈(l.drop f).take (i - f),c≠10)∧linesL l=d++linesL (l.drop f) ∧
  x=((S l,(),(),(f:Int),(i:Int),()),WV d,())) ?_ ⟨0,0,[],by omega,by omega,by simp,by simp,rfl,rfl⟩
 rintro x ⟨i,f,d,hf,hi,hd,hno,hL,rfl⟩ k hk
 unfold Lq0j_0
 simp only [S_size,S_extract,Int.toNat_natCast,WV_len,List.length_singleton]
 have w1:w64 ((i:Int)+1)=((i+1:Nat):Int):=by rw [w64_in (by omega) (by omega)]; omega
 by_cases e:i < l.length
 ·rw [if_pos (decide_eq_true (by omega)),if_pos (by omega),show ((10:Int))=(((10:UInt8).toNat:Nat):Int) from rfl,bAtD _ _ e,w1]
  by_cases e1:l[i]=10
  ·rw [if_pos (by simp [e1]),if_pos (by omega),if_pos (by omega)]
   refine qTrim _ (by simp; omega) ?_
   rw [if_pos (room _ _ (by omega) (by omega)),WV_snoc]
   refine hk _ ⟨i+1,i+1,_,Nat.le_refl _,by omega,by simp; omega,by simp,?_,rfl⟩ (by show l.length - Int.toNat ((i+1:Nat):Int) < l.length - Int.toNat (i:Int); omega)
   have es:l.drop f=(l.drop f).take (i - f)++10 :: l.drop (i+1):=by
    conv=>lhs; rw [← List.take_append_drop (i - f) (l.drop f)]
    rw [List.drop_drop,show f+(i - f)=i by omega,List.drop_eq_getElem_cons e,e1]
   rw [hL,es,lines_cons _ _ (fun hh=>hno _ hh rfl)]
   rw [← es]; simp
  ·rw [if_neg (by simp [e1])]
   refine hk _ ⟨i+1,f,d,by omega,by omega,by omega,fun c hc=>?_,hL,rfl⟩ (by show l.length - Int.toNat ((i+1:Nat):Int) < l.length - Int.toNat (i:Int); omega)
   rw [show i+1 - f=(i - f)+1 by omega,List.take_succ_eq_append_getElem (by simp; omega),List.mem_append,List.mem_singleton] at hc
   rcases hc with hc | rfl
   ·exact hno c hc
   ·simp only [List.getElem_drop,show f+(i - f)=i by omega]; exact e1
 ·have:i=l.length:=by omega
  subst this
  rw [if_neg (dneg (by omega))]
  have e0:(l.drop f).take (l.length - f)=l.drop f:=List.take_of_length_le (by simp)
  rw [e0] at hno
  rw [lines_last _ (fun hh=>hno _ hh rfl)] at hL
  by_cases e2:f < l.length
  ·rw [if_pos (decide_eq_true (by omega)),if_pos (by omega),if_pos (by omega),e0]
   rw [if_neg (fun hh=>by have:=congrArg List.length hh; simp at this; omega)] at hL
   refine qTrim _ (by simp; omega) ?_
   rw [if_pos (room _ _ (by omega) (by omega)),WV_snoc,← hL]; exact h
  ·rw [if_neg (dneg (by omega))]
   rw [if_pos (by simp; omega),List.append_nil] at hL
   rw [← hL]; exact h
theorem qCut (l:List UInt8) (c:UInt8) (hl:l.length≤140737488351232) {K} (h:K (S (splitL c l).1) (S (splitL c l).2.1) (splitL c l).2.2):Xq1n (S l) (S [c]) K:=by
 unfold Xq1n Yq1n
 have hn:=nl_le (· == c) l
 refine lp_at (fun j:Nat=>((S l,S [c],ByteArray.mk #[],ByteArray.mk #[],false,(j:Int),()),())) (nl (· == c) l) rfl fun j hj k hk=>?_
 unfold Lq1n_0
 unfold splitL at h
 simp only [decide_eq_true_eq,S_size,S_extract,S_toList,List.length_singleton]
 rw [w64_in (n:=(j:Int)+((1:Nat):Int)) (by omega) (by omega)]
 by_cases hjl:j < l.length
 ·refine ifT (by omega) (ifT (by simp) (ifT (by omega) (ifT (by omega) ?_)))
  have e1:Int.toNat ((j:Int)+((1:Nat):Int))=j+1:=by omega
  have e2:(l.drop j).take (j+1 - j)=[l[j]]:=by
   rw [List.drop_eq_getElem_cons hjl,show j+1 - j=1 by omega]; rfl
  simp only [lt,e1,Int.toNat_natCast,e2,List.drop_zero,Nat.sub_zero,take_all]
  by_cases hlt:j < nl (· == c) l
  ·have hg:=(nl_spec (· == c) l j hjl).1 hlt
   refine ifF (by simpa using hg) ?_
   rw [w64_in (n:=(j:Int)+1) (by omega) (by omega)]
   exact hk hlt
  ·have hg:=(nl_spec (· == c) l j hjl).2 (by omega)
   have ej:nl (· == c) l=j:=by omega
   rw [ej,if_pos hjl] at h
   refine ifT (by simpa using hg) (ifT (by omega) (ifT (by omega) (ifT (by omega) (ifT (by omega) h))))
 ·rw [if_neg (by omega)] at h
  exact ifF (by omega) h
theorem qBlank (c:UInt8) {K} (h:K (blankB c)):Xq0s (c.toNat:Int) K:=by
 unfold Xq0s Yq0s
 unfold blankB at h
 have e (x:UInt8):((c.toNat:Int) == (x.toNat:Int))=(c == x):=by
  rw [Bool.eq_iff_iff,beq_iff_eq,beq_iff_eq]
  exact ⟨fun e=>u8_eq (by omega),fun e=>by rw [e]⟩
 rw [show (32:Int)=(((32:UInt8).toNat:Nat):Int) from rfl,show (9:Int)=(((9:UInt8).toNat:Nat):Int) from rfl,e,e]
 cases e1:c == 32
 ·rw [if_neg (by simp)]; rw [e1] at h; exact h
 ·rw [if_pos rfl]; rw [e1] at h; exact h
theorem bAtC (l:List UInt8) (i:Nat) (h:i < l.length):Eng.bAt (S l) i=(l[i].toNat:Int):=by rw [bAt_S,getD_in _ _ _ h]
theorem qWords (l:List UInt8) (hl:l.length≤1000000) {K} (h:K (WV (wordsL l)) true false):Xq0l (S l) K:=by
 unfold Xq0l Yq0l
 refine lp_ind (fun x=>l.length+1 - x.1.2.2.2.1.toNat) (fun x=>∃ (i:Nat) (d:List (List UInt8)),i≤l.length+1∧d.length≤i∧wordsL l=d++wordsL (l.drop i) ∧
  x=((S l,(),(),(i:Int),()),WV d,())) ?_ ⟨0,[],by omega,by simp,rfl,rfl⟩
 rintro x ⟨i,d,hi,hd,hL,rfl⟩ k hk
 unfold Lq0l_0
 dsimp only
 rw [S_size,Int.toNat_natCast]
 have w1:w64 ((i:Int)+1)=((i+1:Nat):Int):=by rw [w64_in (by omega) (by omega)]; omega
 by_cases e:i < l.length
 ·rw [if_pos (decide_eq_true (by omega)),if_pos (by omega),bAtC _ _ e]
  refine qBlank _ ?_
  rw [List.drop_eq_getElem_cons e] at hL
  by_cases eb:blankB l[i]=true
  ·rw [if_pos eb,w1]
   refine hk _ ⟨i+1,d,by omega,by omega,?_,rfl⟩ (by show l.length+1 - Int.toNat ((i+1:Nat):Int) < l.length+1 - Int.toNat (i:Int); omega)
   rw [hL]; unfold wordsL; rw [wd,if_pos eb,if_pos rfl]
  ·rw [if_neg eb]
   refine lp_ind (fun x=>l.length - x.1.2.2.2.1.toNat) (fun x=>∃ j:Nat,i≤j∧j≤l.length∧(∀ c∈(l.drop i).take (j - i),blankB c=false)∧(i=j→i < l.length∧blankB (l.getD i 0)=false) ∧
    x=((S l,(),(),(j:Int),(i:Int),()),WV d,())) ?_ ⟨i,by omega,by omega,by simp,fun _=>⟨e,by rw [getD_in _ _ _ e]; simpa using eb⟩,rfl⟩
   rintro x ⟨j,hij,hj,hb,hs,rfl⟩ k2 hk2
   unfold Lq0l_1
   simp only [S_size,S_extract,Int.toNat_natCast,WV_len,List.length_singleton]
   have w2:w64 ((j:Int)+1)=((j+1:Nat):Int):=by rw [w64_in (by omega) (by omega)]; omega
   rw [w2]
   have done:∀ (rest:List (List UInt8)),i < j→wd ((l.drop i).take (j - i)) (l.drop j)=(l.drop i).take (j - i) :: rest→rest=wordsL (l.drop (j+1)) →
     k ((S l,(),(),((j+1:Nat):Int),()),WV (d++[(l.drop i).take (j - i)]),()):=fun rest hlt hw hr=>by
    refine hk _ ⟨j+1,_,by omega,by simp; omega,?_,rfl⟩ (by show l.length+1 - Int.toNat ((j+1:Nat):Int) < l.length+1 - Int.toNat (i:Int); omega)
    have:=wd_skip ((l.drop i).take (j - i)) [] (l.drop j) hb
    have ea:(l.drop i).take (j - i)++l.drop j=l.drop i:=by
     conv=>rhs; rw [← List.take_append_drop (j - i) (l.drop i)]
     rw [List.drop_drop,show i+(j - i)=j by omega]
    rw [ea,List.nil_append,hw,hr] at this
    rw [← List.drop_eq_getElem_cons e] at hL
    rw [hL]
    have e0:wordsL (l.drop i)=(l.drop i).take (j - i) :: wordsL (l.drop (j+1)):=this
    rw [e0]; simp
   have ne:i < j→(l.drop i).take (j - i)≠[]:=fun hlt hh=>by have:=congrArg List.length hh; simp at this; omega
   by_cases ej:j < l.length
   ·rw [if_pos (decide_eq_true (by omega)),if_pos (by omega),bAtC _ _ ej]
    refine qBlank _ ?_
    cases eb2:blankB l[j]
    ·rw [if_pos (by rfl)]
     refine hk2 _ ⟨j+1,by omega,by omega,fun c hc=>?_,fun hh=>by omega,rfl⟩ (by show l.length - Int.toNat ((j+1:Nat):Int) < l.length - Int.toNat (j:Int); omega)
     rw [show j+1 - i=(j - i)+1 by omega,List.take_succ_eq_append_getElem (by simp; omega),List.mem_append,List.mem_singleton] at hc
     rcases hc with hc | rfl
     ·exact hb c hc
     ·simp only [List.getElem_drop,show i+(j - i)=j by omega]; exact eb2
    ·have hlt:i < j:=by
      rcases Nat.lt_or_ge i j with hlt | hge
      ·exact hlt
      ·have:i=j:=by omega
       have:=(hs this).2
       rw [‹i=j›,getD_in _ _ _ ej,eb2] at this; cases this
     rw [if_neg (by simp),if_pos (by omega),if_pos (by omega),if_pos (room _ _ (by omega) (by omega)),WV_snoc]
     refine done (wordsL (l.drop (j+1))) hlt ?_ rfl
     rw [List.drop_eq_getElem_cons ej,wd,if_pos eb2,if_neg (ne hlt)]; rfl
   ·have:j=l.length:=by omega
    subst this
    have hlt:i < l.length:=e
    rw [if_neg (dneg (by omega)),if_pos (by omega),if_pos (by omega),if_pos (room _ _ (by omega) (by omega)),WV_snoc]
    refine done [] hlt ?_ ?_
    ·rw [List.drop_length,wd,if_neg (ne hlt)]
    ·rw [List.drop_eq_nil_of_le (by omega)]; rfl
 ·rw [if_neg (dneg (by omega))]
  rw [List.drop_eq_nil_of_le (by omega)] at hL
  have:wordsL l=d:=by rw [hL]; simp [wordsL,wd]
  rw [this] at h; exact h
theorem qNumber (l:List UInt8) (hl:l.length≤1000000) {K} (h:K (numL l).1 (numL l).2):Xq0g (S l) K:=by
 unfold Xq0g Yq0g
 unfold numL at h
 refine lp_ind (fun x=>l.length - x.1.2.2.2.2.1.toNat) (fun x=>∃ i:Nat,i≤l.length∧(l.take i).all isDig=true∧valL (l.take i)≤9223372036854775807∧x=((S l,0,false,(valL (l.take i):Int),(i:Int),()),())) ?_ ⟨0,by omega,rfl,by simp [valL],rfl⟩
 rintro x ⟨i,hi,hd,hv,rfl⟩ k hk
 unfold Lq0g_0
 dsimp only
 rw [S_size,Int.toNat_natCast]
 by_cases e:i < l.length
 ·have hc:=l[i].toNat_lt
  rw [if_pos (decide_eq_true (by omega)),if_pos (by omega),bAtC _ _ e]
  have w0:w64 (l[i].toNat:Int)=(l[i].toNat:Int):=w64_in (by omega) (by omega)
  have w1:w64 ((l[i].toNat:Int) - 48)=(l[i].toNat:Int) - 48:=w64_in (by omega) (by omega)
  have w2:w64 ((i:Int)+1)=((i+1:Nat):Int):=by rw [w64_in (by omega) (by omega)]; omega
  simp only [lt,w0,w1,w2]
  have bad:isDig l[i]=false→K 0 false:=fun hb=>by
   rw [if_neg] at h
   ·exact h
   ·intro hh
    have:=List.all_eq_true.1 hh.2.1 _ (List.getElem_mem e)
    rw [hb] at this; cases this
  by_cases c1:(l[i].toNat:Int) - 48 < 0
  ·rw [if_pos (decide_eq_true c1)]
   exact bad (by simp [isDig]; omega)
  rw [if_neg (dneg c1)]
  by_cases c2:(l[i].toNat:Int) - 48 > 9
  ·rw [if_pos (decide_eq_true c2)]
   exact bad (by simp [isDig]; omega)
  rw [if_neg (dneg c2)]
  have w3:w64 (Int.tdiv (w64 (9223372036854775807 - ((l[i].toNat:Int) - 48))) 10)=(9223372036854775807 - ((l[i].toNat:Int) - 48)) / 10:=by
   rw [w64_in (n:=9223372036854775807 - ((l[i].toNat:Int) - 48)) (by omega) (by omega),Int.tdiv_eq_ediv_of_nonneg (by omega),w64_in (by omega) (by omega)]
  rw [w3]
  have hval:=val_take l i e
  have hpre:=val_pre l (i+1)
  by_cases c3:(valL (l.take i):Int) > (9223372036854775807 - ((l[i].toNat:Int) - 48)) / 10
  ·rw [if_pos (decide_eq_true c3)]
   rw [if_neg (fun hh=>by have:=hh.2.2; omega)] at h; exact h
  ·rw [if_neg (dneg c3)]
   have w4:w64 (w64 (10 * (valL (l.take i):Int))+((l[i].toNat:Int) - 48))=(valL (l.take (i+1)):Int):=by
    rw [w64_in (n:=10 * (valL (l.take i):Int)) (by omega) (by omega),w64_in (by omega) (by omega),hval]; omega
   rw [w4]
   refine hk _ ⟨i+1,e,?_,by omega,rfl⟩ (by show l.length - Int.toNat ((i+1:Nat):Int) < l.length - Int.toNat (i:Int); omega)
   rw [List.take_succ_eq_append_getElem e,List.all_append,hd]
   simp [isDig]; omega
 ·have:i=l.length:=by omega
  subst this
  rw [List.take_length] at hd hv ⊢
  rw [if_neg (dneg (by omega)),kS_nil]
  by_cases hn:l=[]
  ·subst hn; simpa [valL] using h
  ·rw [if_pos ⟨hn,hd,hv⟩] at h
   have:(!l.isEmpty)=true:=by cases l <;> simp at hn ⊢
   rw [this]; exact h
theorem qEnd (n:Int) {K} (h:K (endD n)):Xq1l n K:=by
 unfold Xq1l Yq1l
 refine rdate n ?_
 unfold endD at h
 by_cases e:-719162≤n∧n≤2932896
 ·rw [if_pos e]
  rw [decide_eq_true e,Bool.true_and] at h
  obtain ⟨⟨v1,v2,v3,v4,_⟩,_⟩:=num_date e.1 e.2
  rw [if_pos rfl]
  exact rdays _ _ v3 v4 h
 ·rw [if_neg e]
  rw [decide_eq_false e,Bool.false_and] at h
  rw [if_neg (by simp)]; exact h
def aheadG (ls:List LR) (k:Nat):Int:=if k=0 then 729 else (ls.getD (k - 1) (0,0,false)).1
theorem qWrong (t:Tb) (k:Nat) (hk:k < t.ls.length) (hl:t.ls.length≤1000000) {K} (h:K (wrongL k t.ls[k] (aheadG t.ls k))):Xq0t (TLV t.ls,t.has,t.ex,()) (k:Int) K:=by
 unfold Xq0t Yq0t
 dsimp only
 rw [TLV_len,if_pos (by omega),Int.toNat_natCast]
 refine asL1 hk (asL2 hk (asL3 hk ?_))
 unfold wrongL at h
 by_cases h1:200≤k
 ·rw [if_pos h1] at h; rw [if_pos (decide_eq_true (by omega))]; exact h
 rw [if_neg h1] at h; rw [if_neg (dneg (by omega))]
 by_cases h2:(t.ls[k]).1 < 730
 ·rw [if_pos (.inl h2)] at h
  rw [if_pos (decide_eq_true h2)]; exact h
 rw [if_neg (dneg h2)]
 by_cases h3:(t.ls[k]).1≥2932896
 ·rw [if_pos (.inr h3)] at h
  rw [if_pos (decide_eq_true h3)]; exact h
 rw [if_neg (dneg h3)]
 rw [if_neg (by omega)] at h
 refine qEnd _ ?_
 cases he:endD (t.ls[k]).1
 ·rw [if_pos (by rfl)]; rw [if_pos he] at h; exact h
 rw [if_neg (by simp)]
 rw [if_neg (by simp [he])] at h
 have last:((t.ls[k]).2.1=1∨(t.ls[k]).2.1=-1)→(if decide ((k:Int) > 0)=true then
   (if 0≤w64 ((k:Int) - 1)∧w64 ((k:Int) - 1) < (t.ls.length:Int) then Eng.asInt .i64 (getC (TLV t.ls) (Int.toNat (w64 ((k:Int) - 1))) 0) False fun n6=>if decide ((t.ls[k]).1≤n6)=true then K 4 else K 0 else False) else K 0):=fun hs=>by
  rw [if_neg (by omega)] at h
  unfold aheadG at h
  by_cases k0:k=0
  ·rw [if_neg (dneg (by omega))]
   rw [if_pos k0,if_neg (by omega)] at h; exact h
  ·have w1:w64 ((k:Int) - 1)=((k - 1:Nat):Int):=by rw [w64_in (by omega) (by omega)]; omega
   rw [if_pos (decide_eq_true (by omega)),w1,if_pos (by omega),Int.toNat_natCast]
   have hk':k - 1 < t.ls.length:=by omega
   refine asL1 hk' ?_
   rw [if_neg k0,getD_in _ _ _ hk'] at h
   by_cases h6:(t.ls[k]).1≤(t.ls[k - 1]).1
   ·rw [if_pos (decide_eq_true h6)]; rw [if_pos h6] at h; exact h
   ·rw [if_neg (dneg h6)]; rw [if_neg h6] at h; exact h
 by_cases s1:(t.ls[k]).2.1=1
 ·rw [if_neg (by simp [s1])]; exact last (.inl s1)
 ·rw [if_pos (by simpa using s1)]
  by_cases s2:(t.ls[k]).2.1=-1
  ·rw [if_neg (by simp [s2])]; exact last (.inr s2)
  ·rw [if_pos (by simpa using s2)]
   rw [if_pos ⟨s1,s2⟩] at h; exact h
theorem qCheck (t:Tb) (hl:t.ls.length≤1000000) {K} (h:K ((checkT t).1:Int) (checkT t).2):Xq0v (TLV t.ls,t.has,t.ex,()) K:=by
 unfold Xq0v Yq0v
 unfold checkT at h
 refine lp_ind (fun x=>t.ls.length - x.1.2.2.2.2.1.toNat) (fun x=>∃ (j:Nat) (a:Int),j≤t.ls.length∧a=aheadG t.ls j∧729≤a∧a≤2932896∧checkG j a (t.ls.drop j)=checkG 0 729 t.ls ∧
  x=(((),0,0,(a+1) * 86400,(j:Int),()),(TLV t.ls,t.has,t.ex,()),())) ?_ ⟨0,729,by omega,rfl,by omega,by omega,rfl,rfl⟩
 rintro x ⟨j,a,hj,hag,ha,ha',hc,rfl⟩ k hk
 unfold Lq0v_0
 dsimp only
 rw [TLV_len,Int.toNat_natCast]
 by_cases e:j < t.ls.length
 ·rw [if_pos (decide_eq_true (by omega))]
  refine qWrong t j e hl ?_
  rw [← hag]
  rw [List.drop_eq_getElem_cons e,checkG] at hc
  by_cases hw:wrongL j t.ls[j] a=0
  ·rw [if_neg (by simp [hw]),if_pos (by omega)]
   refine asL1 e ?_
   rw [if_neg (by simp [hw])] at hc
   obtain ⟨_,q1,q2,_⟩:=wrongL_0 hw
   have w1:w64 ((j:Int)+1)=((j+1:Nat):Int):=by rw [w64_in (by omega) (by omega)]; omega
   have w2:w64 (86400 * w64 ((t.ls[j]).1+1))=((t.ls[j]).1+1) * 86400:=by rw [w64_in (n:=(t.ls[j]).1+1) (by omega) (by omega),w64_in (by omega) (by omega)]; omega
   simp only [lt,w1,w2]
   refine hk _ ⟨j+1,_,e,?_,by omega,by omega,hc,rfl⟩ (by show t.ls.length - Int.toNat ((j+1:Nat):Int) < t.ls.length - Int.toNat (j:Int); omega)
   unfold aheadG
   rw [if_neg (by omega),Nat.add_sub_cancel,getD_in _ _ _ e]
  ·rw [if_pos (by simpa using hw)]
   rw [if_pos hw] at hc
   rw [← hc,if_pos hw] at h
   exact h
 ·rw [if_neg (dneg (by omega))]
  have:j=t.ls.length:=by omega
  subst this
  rw [List.drop_length,checkG] at hc
  rw [← hc,if_neg (by simp)] at h
  unfold expB at h
  dsimp only at h
  have em:(if 63072000 > (a+1) * 86400 then 63072000 else (a+1) * 86400)=(a+1) * 86400:=by split <;> omega
  rw [em] at h
  cases hh:t.has
  ·rw [hh] at h
   rw [if_neg (show ¬ (false=true) by simp)] at h
   rw [if_neg (show ¬ (false=true) by simp),if_pos (show (!false)=true from rfl)]
   by_cases h1:t.ex=0
   ·rw [if_neg (by simp [h1])]
    rw [if_neg (by simp [h1])] at h; exact h
   ·rw [if_pos (by simpa using h1)]
    rw [if_pos h1] at h; exact h
  ·rw [hh,if_pos rfl] at h
   rw [if_pos rfl]
   by_cases h1:t.ex < (a+1) * 86400
   ·rw [if_pos (decide_eq_true h1)]
    rw [if_pos (.inl h1)] at h; exact h
   rw [if_neg (dneg h1)]
   by_cases h2:t.ex > 253402300799
   ·rw [if_pos (decide_eq_true h2)]
    rw [if_pos (.inr h2)] at h; exact h
   rw [if_neg (dneg h2),if_neg (by simp)]
   rw [if_neg (by omega)] at h; exact h
theorem qRightT (t:Tb) (hl:t.ls.length≤1000000) {K} (h:K (rightT t)):Xq0m (TLV t.ls,t.has,t.ex,()) K:=by
 unfold Xq0m Yq0m
 exact qCheck t hl h
theorem qCopy (t:Tb) (hl:t.ls.length≤1000000) {K} (h:K ((),t.has,t.ex,()) (TLV t.ls) true false):Xq17 (TLV t.ls,t.has,t.ex,()) K:=by
 unfold Xq17 Yq17
 dsimp only
 rw [TLV_len,if_pos (room _ _ (by omega) (by omega)),List.nil_append]; exact h
theorem qAdd (t:Tb) (l:LR) (hl:t.ls.length≤100000) {K} (h:∀ o f,K ((),t.has,t.ex,()) (addT t l).2 (TLV (addT t l).1.ls) o f):Xq1k (TLV t.ls,t.has,t.ex,()) (l.1,l.2.1,l.2.2,()) K:=by
 unfold Xq1k Yq1k
 refine qCopy t (by omega) ?_
 dsimp only
 rw [if_pos rfl,TLV_len,List.length_singleton,if_pos (room _ _ (by omega) (by omega))]
 simp only [lt]
 have e1:TLV t.ls++[Eng.V.agg [Eng.V.c (Value.int IntKind.i64 l.1),Eng.V.c (Value.int IntKind.i64 l.2.1),Eng.V.c (Value.bool l.2.2)]]=TLV (t.ls++[l]):=by simp [TLV,eLR]
 rw [e1]
 refine qCheck ⟨t.ls++[l],t.has,t.ex⟩ (by simp; omega) ?_
 unfold addT at h
 by_cases hc:(checkT ⟨t.ls++[l],t.has,t.ex⟩).2=0
 ·rw [if_neg (by simp [hc])]
  simp only [hc] at h
  exact h _ _
 ·rw [if_pos (by simpa using hc)]
  simp only [if_pos hc] at h
  exact qCopy t (by omega) (h _ _)
end Go.Proofs.YtdjldmolhkkipaaGreatDoor
end
section
set_option linter.unusedVariables false
set_option linter.unusedSimpArgs false
namespace Go.Proofs.YtdjldmolhkkipaaGreatDoor
open Go Go.Proofs.YtdjldmolhkkipaaGreatDoor.Eng Go.Proofs.YtdjldmolhkkipaaGreatDoor.Pl
set_option maxRecDepth 100000
set_option maxHeartbeats 2000000
theorem set5z (f z:Nat→Int):List.set (agL .u32 5 z) 0 (setE (List.getD (agL .u32 5 z) 0 V.bad) 0 [V.c (.int .u32 (f 0)),V.c (.int .u32 (f 1)),V.c (.int .u32 (f 2)),V.c (.int .u32 (f 3)),V.c (.int .u32 (f 4))])=agL .u32 5 f:=by kernel_rfl
theorem read5z (u:Nat→W32) (f z:Nat→Int) (hf:∀ i,i < 5→f i=wi (u i)) {K:T5→Prop}:(Eng.asInt IntKind.u32 (Eng.getC (agL .u32 5 f) (0:Nat) (0:Nat)) False fun m0 =>
  Eng.asInt IntKind.u32 (Eng.getC (agL .u32 5 f) (0:Nat) (1:Nat)) False fun m1 =>
  Eng.asInt IntKind.u32 (Eng.getC (agL .u32 5 f) (0:Nat) (2:Nat)) False fun m2 =>
  Eng.asInt IntKind.u32 (Eng.getC (agL .u32 5 f) (0:Nat) (3:Nat)) False fun m3 =>
  Eng.asInt IntKind.u32 (Eng.getC (agL .u32 5 f) (0:Nat) (4:Nat)) False fun m4 =>
  (if (0:Nat) < List.length (agL .u32 5 z) then
  lt (List.set (agL .u32 5 z) (0:Nat) (Eng.setE (List.getD (agL .u32 5 z) (0:Nat) Eng.V.bad) (0:Nat) [V.c (.int .u32 m0),V.c (.int .u32 m1),V.c (.int .u32 m2),V.c (.int .u32 m3),V.c (.int .u32 m4)])) fun v =>
  Eng.asInt IntKind.u32 (Eng.getC v (0:Nat) (0:Nat)) False fun p0 =>
  Eng.asInt IntKind.u32 (Eng.getC v (0:Nat) (1:Nat)) False fun p1 =>
  Eng.asInt IntKind.u32 (Eng.getC v (0:Nat) (2:Nat)) False fun p2 =>
  Eng.asInt IntKind.u32 (Eng.getC v (0:Nat) (3:Nat)) False fun p3 =>
  Eng.asInt IntKind.u32 (Eng.getC v (0:Nat) (4:Nat)) False fun p4 =>
  K (p0,p1,p2,p3,p4,()) else False))=K (t5 u):=by
 rw [asIe 0 rfl,asIe 1 rfl,asIe 2 rfl,asIe 3 rfl,asIe 4 rfl]
 rw [if_pos (show (0:Nat) < List.length (agL .u32 5 z) from Nat.zero_lt_one)]
 rw [set5z]
 simp only [lt]
 rw [asIe 0 rfl,asIe 1 rfl,asIe 2 rfl,asIe 3 rfl,asIe 4 rfl]
 rw [hf 0 (by decide),hf 1 (by decide),hf 2 (by decide),hf 3 (by decide),hf 4 (by decide)]
theorem set20z (f z:Nat→Int):List.set (agL .u8 20 z) 0 (setE (List.getD (agL .u8 20 z) 0 V.bad) 0 [V.c (.int .u8 (f 0)),V.c (.int .u8 (f 1)),V.c (.int .u8 (f 2)),V.c (.int .u8 (f 3)),V.c (.int .u8 (f 4)),V.c (.int .u8 (f 5)),V.c (.int .u8 (f 6)),V.c (.int .u8 (f 7)),V.c (.int .u8 (f 8)),V.c (.int .u8 (f 9)),V.c (.int .u8 (f 10)),V.c (.int .u8 (f 11)),V.c (.int .u8 (f 12)),V.c (.int .u8 (f 13)),V.c (.int .u8 (f 14)),V.c (.int .u8 (f 15)),V.c (.int .u8 (f 16)),V.c (.int .u8 (f 17)),V.c (.int .u8 (f 18)),V.c (.int .u8 (f 19))])=agL .u8 20 f:=by kernel_rfl
theorem read20z (u:Nat→UInt8) (f z:Nat→Int) (hf:∀ i,i < 20→f i=bi (u i)) {K:T20→Prop}:(Eng.asInt IntKind.u8 (Eng.getC (agL .u8 20 f) (0:Nat) (0:Nat)) False fun m0 =>
  Eng.asInt IntKind.u8 (Eng.getC (agL .u8 20 f) (0:Nat) (1:Nat)) False fun m1 =>
  Eng.asInt IntKind.u8 (Eng.getC (agL .u8 20 f) (0:Nat) (2:Nat)) False fun m2 =>
  Eng.asInt IntKind.u8 (Eng.getC (agL .u8 20 f) (0:Nat) (3:Nat)) False fun m3 =>
  Eng.asInt IntKind.u8 (Eng.getC (agL .u8 20 f) (0:Nat) (4:Nat)) False fun m4 =>
  Eng.asInt IntKind.u8 (Eng.getC (agL .u8 20 f) (0:Nat) (5:Nat)) False fun m5 =>
  Eng.asInt IntKind.u8 (Eng.getC (agL .u8 20 f) (0:Nat) (6:Nat)) False fun m6 =>
  Eng.asInt IntKind.u8 (Eng.getC (agL .u8 20 f) (0:Nat) (7:Nat)) False fun m7 =>
  Eng.asInt IntKind.u8 (Eng.getC (agL .u8 20 f) (0:Nat) (8:Nat)) False fun m8 =>
  Eng.asInt IntKind.u8 (Eng.getC (agL .u8 20 f) (0:Nat) (9:Nat)) False fun m9 =>
  Eng.asInt IntKind.u8 (Eng.getC (agL .u8 20 f) (0:Nat) (10:Nat)) False fun m10 =>
  Eng.asInt IntKind.u8 (Eng.getC (agL .u8 20 f) (0:Nat) (11:Nat)) False fun m11 =>
  Eng.asInt IntKind.u8 (Eng.getC (agL .u8 20 f) (0:Nat) (12:Nat)) False fun m12 =>
  Eng.asInt IntKind.u8 (Eng.getC (agL .u8 20 f) (0:Nat) (13:Nat)) False fun m13 =>
  Eng.asInt IntKind.u8 (Eng.getC (agL .u8 20 f) (0:Nat) (14:Nat)) False fun m14 =>
  Eng.asInt IntKind.u8 (Eng.getC (agL .u8 20 f) (0:Nat) (15:Nat)) False fun m15 =>
  Eng.asInt IntKind.u8 (Eng.getC (agL .u8 20 f) (0:Nat) (16:Nat)) False fun m16 =>
  Eng.asInt IntKind.u8 (Eng.getC (agL .u8 20 f) (0:Nat) (17:Nat)) False fun m17 =>
  Eng.asInt IntKind.u8 (Eng.getC (agL .u8 20 f) (0:Nat) (18:Nat)) False fun m18 =>
  Eng.asInt IntKind.u8 (Eng.getC (agL .u8 20 f) (0:Nat) (19:Nat)) False fun m19 =>
  (if (0:Nat) < List.length (agL .u8 20 z) then
  lt (List.set (agL .u8 20 z) (0:Nat) (Eng.setE (List.getD (agL .u8 20 z) (0:Nat) Eng.V.bad) (0:Nat) [V.c (.int .u8 m0),V.c (.int .u8 m1),V.c (.int .u8 m2),V.c (.int .u8 m3),V.c (.int .u8 m4),V.c (.int .u8 m5),V.c (.int .u8 m6),V.c (.int .u8 m7),V.c (.int .u8 m8),V.c (.int .u8 m9),V.c (.int .u8 m10),V.c (.int .u8 m11),V.c (.int .u8 m12),V.c (.int .u8 m13),V.c (.int .u8 m14),V.c (.int .u8 m15),V.c (.int .u8 m16),V.c (.int .u8 m17),V.c (.int .u8 m18),V.c (.int .u8 m19)])) fun v =>
  Eng.asInt IntKind.u8 (Eng.getC v (0:Nat) (0:Nat)) False fun p0 =>
  Eng.asInt IntKind.u8 (Eng.getC v (0:Nat) (1:Nat)) False fun p1 =>
  Eng.asInt IntKind.u8 (Eng.getC v (0:Nat) (2:Nat)) False fun p2 =>
  Eng.asInt IntKind.u8 (Eng.getC v (0:Nat) (3:Nat)) False fun p3 =>
  Eng.asInt IntKind.u8 (Eng.getC v (0:Nat) (4:Nat)) False fun p4 =>
  Eng.asInt IntKind.u8 (Eng.getC v (0:Nat) (5:Nat)) False fun p5 =>
  Eng.asInt IntKind.u8 (Eng.getC v (0:Nat) (6:Nat)) False fun p6 =>
  Eng.asInt IntKind.u8 (Eng.getC v (0:Nat) (7:Nat)) False fun p7 =>
  Eng.asInt IntKind.u8 (Eng.getC v (0:Nat) (8:Nat)) False fun p8 =>
  Eng.asInt IntKind.u8 (Eng.getC v (0:Nat) (9:Nat)) False fun p9 =>
  Eng.asInt IntKind.u8 (Eng.getC v (0:Nat) (10:Nat)) False fun p10 =>
  Eng.asInt IntKind.u8 (Eng.getC v (0:Nat) (11:Nat)) False fun p11 =>
  Eng.asInt IntKind.u8 (Eng.getC v (0:Nat) (12:Nat)) False fun p12 =>
  Eng.asInt IntKind.u8 (Eng.getC v (0:Nat) (13:Nat)) False fun p13 =>
  Eng.asInt IntKind.u8 (Eng.getC v (0:Nat) (14:Nat)) False fun p14 =>
  Eng.asInt IntKind.u8 (Eng.getC v (0:Nat) (15:Nat)) False fun p15 =>
  Eng.asInt IntKind.u8 (Eng.getC v (0:Nat) (16:Nat)) False fun p16 =>
  Eng.asInt IntKind.u8 (Eng.getC v (0:Nat) (17:Nat)) False fun p17 =>
  Eng.asInt IntKind.u8 (Eng.getC v (0:Nat) (18:Nat)) False fun p18 =>
  Eng.asInt IntKind.u8 (Eng.getC v (0:Nat) (19:Nat)) False fun p19 =>
  K (p0,p1,p2,p3,p4,p5,p6,p7,p8,p9,p10,p11,p12,p13,p14,p15,p16,p17,p18,p19,()) else False))=K (t20 u):=by
 rw [asIe 0 rfl,asIe 1 rfl,asIe 2 rfl,asIe 3 rfl,asIe 4 rfl,asIe 5 rfl,asIe 6 rfl,asIe 7 rfl,asIe 8 rfl,asIe 9 rfl,asIe 10 rfl,asIe 11 rfl,asIe 12 rfl,asIe 13 rfl,asIe 14 rfl,asIe 15 rfl,asIe 16 rfl,asIe 17 rfl,asIe 18 rfl,asIe 19 rfl]
 rw [if_pos (show (0:Nat) < List.length (agL .u8 20 z) from Nat.zero_lt_one)]
 rw [set20z]
 simp only [lt]
 rw [asIe 0 rfl,asIe 1 rfl,asIe 2 rfl,asIe 3 rfl,asIe 4 rfl,asIe 5 rfl,asIe 6 rfl,asIe 7 rfl,asIe 8 rfl,asIe 9 rfl,asIe 10 rfl,asIe 11 rfl,asIe 12 rfl,asIe 13 rfl,asIe 14 rfl,asIe 15 rfl,asIe 16 rfl,asIe 17 rfl,asIe 18 rfl,asIe 19 rfl]
 rw [hf 0 (by decide),hf 1 (by decide),hf 2 (by decide),hf 3 (by decide),hf 4 (by decide),hf 5 (by decide),hf 6 (by decide),hf 7 (by decide),hf 8 (by decide),hf 9 (by decide),hf 10 (by decide),hf 11 (by decide),hf 12 (by decide),hf 13 (by decide),hf 14 (by decide),hf 15 (by decide),hf 16 (by decide),hf 17 (by decide),hf 18 (by decide),hf 19 (by decide)]
theorem rTurn (x:W32) (k:Nat) (h1:1≤k) (h:k < 32) {K:Int→Prop} (hk:K (wi (rotl x k))):Xq1e (wi x) (k:Int) K:=by
 unfold Xq1e Yq1e
 have e3:w64 (32 - (k:Int))=((32 - k:Nat):Int):=by rw [w64_in (by omega) (by omega)]; omega
 rw [if_neg (by omega),e3,if_neg (by omega)]
 simp only [lt,Int.toNat_natCast]
 rw [show min k 32=k by omega,show min (32 - k) 32=32 - k by omega,wi_shl,wi_shr,wi_or]
 exact hk
theorem f1 (b c d:W32):(b &&& c) ^^^ ((4294967295#32 ^^^ b) &&& d)=d ^^^ (b &&& (c ^^^ d)):=by
 apply BitVec.eq_of_getLsbD_eq
 intro i hi
 simp only [BitVec.getLsbD_xor,BitVec.getLsbD_and]
 have:(4294967295#32).getLsbD i=true:=by
  have:∀ j:Fin 32,(4294967295#32).getLsbD j.val=true:=by decide
  exact this ⟨i,hi⟩
 rw [this]
 cases b.getLsbD i <;> cases c.getLsbD i <;> cases d.getLsbD i <;> rfl
theorem f3 (b c d:W32):((b &&& c) ^^^ (b &&& d)) ^^^ (c &&& d)=(b &&& c) ||| (d &&& (b ||| c)):=by
 apply BitVec.eq_of_getLsbD_eq
 intro i hi
 simp only [BitVec.getLsbD_xor,BitVec.getLsbD_and,BitVec.getLsbD_or]
 cases b.getLsbD i <;> cases c.getLsbD i <;> cases d.getLsbD i <;> rfl
theorem rMix (i:Nat) (hi:i < 80) (b c d:W32) {K:Int→Prop} (h:K (wi (fAt i b c d+kAt i))):Xq1o (i:Int) (wi b) (wi c) (wi d) K:=by
 unfold Xq1o Yq1o
 have q0:(4294967295:Int)=wi 4294967295#32:=by decide
 have q1:(1518500249:Int)=wi 1518500249#32:=by decide
 have q2:(1859775393:Int)=wi 1859775393#32:=by decide
 have q3:(2400959708:Int)=wi 2400959708#32:=by decide
 have q4:(3395469782:Int)=wi 3395469782#32:=by decide
 rw [q0,q1,q2,q3,q4]
 simp only [decide_eq_true_eq,lt,wi_xor,wi_and,wi_add]
 unfold fAt kAt at h
 by_cases c1:i < 20
 ·rw [if_pos (by omega)]
  rw [if_pos c1,if_pos c1] at h
  rw [f1]; exact h
 rw [if_neg c1,if_neg c1] at h
 rw [if_neg (by omega)]
 by_cases c2:i < 40
 ·rw [if_pos (by omega)]
  rw [if_pos c2,if_pos c2] at h
  exact h
 rw [if_neg c2,if_neg c2] at h
 rw [if_neg (by omega)]
 by_cases c3:i < 60
 ·rw [if_pos (by omega)]
  rw [if_pos c3,if_pos c3] at h
  rw [f3]; exact h
 rw [if_neg c3,if_neg c3] at h
 rw [if_neg (by omega)]
 exact h
theorem rPadded (b:List UInt8) (hb:b.length≤100000) {K:List V→Bool→Bool→Prop} (h:K (BV (padL b)) true false):Xq0h (BV b) K:=by
 unfold Xq0h Yq0h
 rw [List.nil_append,if_pos (sroom _ (by rw [BV_len]; omega)),if_pos (sroom _ (by rw [BV_len]; omega))]
 rw [show V.c (.int .u8 128)=cb 128 from rfl,show [cb 128]=BV [128] from rfl,BV_app]
 refine lp_at (fun j=>((BV b,(),(),()),BV (b++[128]++List.replicate j 0),())) ((184 - (b.length+1) % 64) % 64) (by simp) fun n hn k hk=>?_
 unfold Lq0h_0
 have hl:(BV (b++[128]++List.replicate n 0)).length=b.length+1+n:=by rw [BV_len]; simp; omega
 rw [hl]
 have em:Int.tmod ((b.length+1+n:Nat):Int) 64=(((b.length+1+n) % 64:Nat):Int):=by rw [Int.tmod_eq_emod_of_nonneg (by omega)]; omega
 rw [em]
 by_cases e:n=(184 - (b.length+1) % 64) % 64
 ·rw [if_neg (by rw [bne_iff_ne]; omega)]
  have e6:wu64 (wu64 (((BV b).length:Nat):Int) * 8)=((8 * b.length:Nat):Int):=by
   rw [BV_len,wu64_in (n:=(b.length:Int)) (by omega) (by omega),wu64_in (by omega) (by omega)]; omega
  simp only [e6]
  refine lp_at (fun j=>(((),(),((8 * b.length:Nat):Int),(j:Int),()),BV (b++[128]++List.replicate n 0++(be64 (8 * b.length)).take j),())) 8 (by simp) fun m hm k hk=>?_
  unfold Lq0h_1
  simp only [decide_eq_true_eq]
  by_cases e2:m=8
  ·rw [if_neg (by omega)]
   subst e2
   rw [List.take_of_length_le (by rw [be64_len]; omega),e]
   exact h
  ·have hm':m < 8:=by omega
   have hk':=hk hm'
   have e8:w64 (56 - w64 (8 * (m:Int)))=((8 * (7 - m):Nat):Int):=by rw [w64_in (n:=8 * (m:Int)) (by omega) (by omega),w64_in (by omega) (by omega)]; omega
   have e1:w64 ((m:Int)+1)=((m+1:Nat):Int):=by rw [w64_in (by omega) (by omega)]; omega
   rw [e8,e1,if_pos (by omega)]
   simp only [lt,Int.toNat_natCast]
   rw [if_neg (by omega),show min (8 * (7 - m)) 64=8 * (7 - m) by omega]
   rw [wu8_shr _ _ (by omega),if_pos (sroom _ (by rw [BV_len]; simp; omega)),BV_one,BV_app]
   refine (congrArg k ?_).mp hk'
   rw [List.take_succ_eq_append_getElem (by rw [be64_len]; omega),be64_get _ _ hm',← List.append_assoc]
 ·have hn':n < (184 - (b.length+1) % 64) % 64:=by omega
  have hk':=hk hn'
  rw [if_pos (by rw [bne_iff_ne]; omega),if_pos (sroom _ (by omega))]
  rw [show V.c (.int .u8 0)=cb 0 from rfl,show [cb 0]=BV [0] from rfl,BV_app]
  refine (congrArg k ?_).mp hk'
  rw [List.replicate_succ',← List.append_assoc]
end Go.Proofs.YtdjldmolhkkipaaGreatDoor
end
section
set_option linter.unusedVariables false
set_option linter.unusedSimpArgs false
namespace Go.Proofs.YtdjldmolhkkipaaGreatDoor
open Go Go.Proofs.YtdjldmolhkkipaaGreatDoor.Eng Go.Proofs.YtdjldmolhkkipaaGreatDoor.Pl
set_option maxRecDepth 100000
set_option maxHeartbeats 2000000
def W32V (l:List W32):List V:=l.map cw
theorem W32V_len (l:List W32):(W32V l).length=l.length:=by simp [W32V]
theorem W32V_app (a b:List W32):W32V a++W32V b=W32V (a++b):=by simp [W32V]
theorem W32V_one (c:W32):[V.c (.int .u32 (wi c))]=W32V [c]:=rfl
theorem asW32 {l:List W32} {i:Nat} (h:i < l.length) {F:Prop} {K:Int→Prop} (hk:K (wi (l.getD i 0))):Eng.asInt .u32 (getC (W32V l) i 0) F K:=by
 have:getC (W32V l) i 0=some (cw (l.getD i 0)):=by
  rw [List.getD_eq_getElem?_getD,List.getElem?_eq_getElem h]
  simp [getC,W32V,V.cells,h]
 rw [this]; simpa [Eng.asInt] using hk
theorem room4 (n:Nat) (h:n≤100000000):roomOk n 4=true:=by
 unfold roomOk
 simp only [decide_eq_true_eq]
 omega
abbrev t5s (s:St5):T5:=(wi s.a,wi s.b,wi s.c,wi s.d,wi s.e,())
theorem row5s (s:St5):[Eng.V.agg [V.c (.int .u32 (wi s.a)),V.c (.int .u32 (wi s.b)),V.c (.int .u32 (wi s.c)),V.c (.int .u32 (wi s.d)),V.c (.int .u32 (wi s.e))]]=agL .u32 5 (fun q=>wi (s.at q)):=by kernel_rfl
theorem setAll5 (f g:Nat→Int):List.set (agL .u32 5 f) 0 (setE (List.getD (agL .u32 5 f) 0 V.bad) 0 [V.c (.int .u32 (g 0)),V.c (.int .u32 (g 1)),V.c (.int .u32 (g 2)),V.c (.int .u32 (g 3)),V.c (.int .u32 (g 4))])=agL .u32 5 g:=by kernel_rfl
theorem word_or (a b c d:UInt8):(((BitVec.ofNat 32 a.toNat <<< 24 ||| BitVec.ofNat 32 b.toNat <<< 16) ||| BitVec.ofNat 32 c.toNat <<< 8) ||| BitVec.ofNat 32 d.toNat)=word [a,b,c,d] 0:=by
 simp only [word,List.foldl_cons,List.foldl_nil,BitVec.shiftLeft_or_distrib,← BitVec.shiftLeft_add,BitVec.ofNat_eq_ofNat,BitVec.zero_shiftLeft,BitVec.zero_or,Nat.reduceAdd]
theorem take4 (l:List UInt8) (k:Nat) (h:k+3 < l.length):(l.drop k).take 4=[l[k],l[k+1],l[k+2],l[k+3]]:=by
 rw [List.drop_eq_getElem_cons (by omega),List.drop_eq_getElem_cons (by omega),List.drop_eq_getElem_cons (by omega),List.drop_eq_getElem_cons (by omega)]
 rfl
theorem first_succ (b:List UInt8) (i:Nat):first b (i+1)=first b i++[wordAt b i]:=by simp [first,List.range_succ]
theorem rAdd (s h:St5) {K:T5→Prop} (k2 k14 k22) (hk:K (t5s (addS s h))) :
  lp (Lq0k_3 K k2 k14 k22) (((),(),(),0,()),t5s h,agL .u32 5 (fun _=>0),agL .u32 5 (fun q=>wi (s.at q)),()):=by
 refine lp_at (fun j=>(((),(),(),(j:Int),()),t5s h,agL .u32 5 (fun _=>0),agL .u32 5 (fun q=>if q < j then wi (s.at q+h.at q) else wi (s.at q)),())) 5 (by simp) fun n hn k hkk=>?_
 unfold Lq0k_3
 simp only [decide_eq_true_eq]
 by_cases e:n=5
 ·subst e
  rw [if_neg (by omega)]
  rw [read5z (fun q=>(addS s h).at q) (fun q=>if q < 5 then wi (s.at q+h.at q) else wi (s.at q)) (fun _=>0) (fun i hi=>by
   simp only [hi,if_true]
   match i,hi with
   | 0,_=>rfl
   | 1,_=>rfl
   | 2,_=>rfl
   | 3,_=>rfl
   | 4,_=>rfl)]
  exact hk
 ·have hn':n < 5:=by omega
  have hk':=hkk hn'
  have e1:w64 ((n:Int)+1)=((n+1:Nat):Int):=by rw [w64_in (by omega) (by omega)]; omega
  rw [e1]
  simp only [Int.toNat_natCast,Nat.mul_one,Nat.zero_add]
  rw [if_pos (by omega),if_pos (by omega)]
  refine asI (by omega) ?_
  rw [if_pos (by omega)]
  refine as5 h (by omega) ?_
  simp only [Nat.lt_irrefl,if_false,wi_add,lt]
  rw [if_pos (by omega),if_pos (show (0:Nat) < List.length (agL .u32 5 (fun q=>if q < n then wi (s.at q+h.at q) else wi (s.at q))) from Nat.zero_lt_one),if_pos (by show n+1≤5; omega)]
  rw [agL_set (by omega)]
  have:updF (fun q=>if q < n then wi (s.at q+h.at q) else wi (s.at q)) n (wi (s.at n+h.at n))=fun q=>if q < n+1 then wi (s.at q+h.at q) else wi (s.at q):=by
   funext q
   unfold updF
   by_cases eq:q=n
   ·subst eq; simp
   ·rw [if_neg eq]
    show (if q < n then wi (s.at q+h.at q) else wi (s.at q))=_
    by_cases hq:q < n
    ·rw [if_pos hq,if_pos (by omega)]
    ·rw [if_neg hq,if_neg (by omega)]
  rw [this]
  exact hk'
theorem rRounds (ws:List W32) (hl:ws.length=80) (h:St5) {K:T5→Prop} (k2 k14) (hk:K (t5s (addS (roundsN ws h 80) h))) :
  lp (Lq0k_2 Xq1e Xq1o K k2 k14) (((),(),(),(),0,()),t5s h,agL .u32 5 (fun _=>0),agL .u32 5 (fun q=>wi (h.at q)),W32V ws,()):=by
 refine lp_at (fun j=>(((),(),(),(),(j:Int),()),t5s h,agL .u32 5 (fun _=>0),agL .u32 5 (fun q=>wi ((roundsN ws h j).at q)),W32V ws,())) 80 rfl fun n hn k hkk=>?_
 unfold Lq0k_2
 simp only [decide_eq_true_eq]
 by_cases e:n=80
 ·subst e
  rw [if_neg (by omega)]
  exact rAdd (roundsN ws h 80) h _ _ _ hk
 ·have hn':n < 80:=by omega
  have hk':=hkk hn'
  have e1:w64 ((n:Int)+1)=((n+1:Nat):Int):=by rw [w64_in (by omega) (by omega)]; omega
  rw [e1,if_pos (by omega)]
  rw [asIe 0 rfl,asIe 1 rfl,asIe 2 rfl,asIe 3 rfl,asIe 4 rfl]
  rw [W32V_len,hl,Int.toNat_natCast,if_pos (by omega)]
  refine asW32 (by omega) ?_
  generalize hs:roundsN ws h n=s at *
  refine rTurn s.a 5 (by omega) (by omega) ?_
  refine rMix n hn' s.b s.c s.d ?_
  simp only [lt]
  rw [asIe 0 rfl,asIe 1 rfl,asIe 2 rfl,asIe 3 rfl]
  refine rTurn s.b 30 (by omega) (by omega) ?_
  rw [if_pos (show (0:Nat) < List.length (agL .u32 5 (fun q=>wi (s.at q))) from Nat.zero_lt_one)]
  have ea:wu32 (wu32 (wu32 (wi (rotl s.a 5)+wi (fAt n s.b s.c s.d+kAt n))+wi (s.at 4))+wi (ws.getD n 0))=wi (rotl s.a 5+fAt n s.b s.c s.d+s.e+kAt n+ws.getD n 0):=by
   rw [wi_add,wi_add,wi_add]
   refine congrArg (fun x:W32=>wi x) ?_
   show rotl s.a 5+(fAt n s.b s.c s.d+kAt n)+s.e+ws.getD n 0=_
   ac_rfl
  rw [ea]
  have es:=setAll5 (fun q=>wi (s.at q)) (fun q=>wi ((roundsN ws h (n+1)).at q))
  have en:roundsN ws h (n+1)=stepS s (fAt n s.b s.c s.d) (kAt n) (ws.getD n 0):=by rw [← hs]; rfl
  rw [en] at es hk'
  refine (congrArg k ?_).mp hk'
  rw [← es]; rfl
theorem rSched (b:List UInt8) (h:St5) {K:T5→Prop} (k2) (hk:K (t5s (blockL h b))) :
  lp (Lq0k_1 Xq1e Xq1o K k2) (((),(),(),16,()),t5s h,agL .u32 5 (fun _=>0),W32V (first b 16),()):=by
 refine lp_at (fun j=>(((),(),(),((16+j:Nat):Int),()),t5s h,agL .u32 5 (fun _=>0),W32V (wordsN b j),())) 64 rfl fun n hn k hkk=>?_
 unfold Lq0k_1
 have hl:=wordsN_len b n
 simp only [decide_eq_true_eq,W32V_len,hl]
 by_cases e:n=64
 ·subst e
  rw [if_neg (by omega),row5s]
  exact rRounds (wordsN b 64) (by rw [wordsN_len]) h _ _ hk
 ·have hn':n < 64:=by omega
  have hk':=hkk hn'
  have g:∀ q:Nat,q≤16→w64 (((16+n:Nat):Int) - (q:Int))=((16+n - q:Nat):Int):=fun q hq=>by rw [w64_in (by omega) (by omega)]; omega
  have g3:=g 3 (by omega)
  have g8:=g 8 (by omega)
  have g14:=g 14 (by omega)
  have g16:=g 16 (by omega)
  simp only [show ((3:Nat):Int)=3 from rfl,show ((8:Nat):Int)=8 from rfl,show ((14:Nat):Int)=14 from rfl,show ((16:Nat):Int)=16 from rfl] at g3 g8 g14 g16
  have e2:w64 (((16+n:Nat):Int)+1)=((16+(n+1):Nat):Int):=by rw [w64_in (by omega) (by omega)]; omega
  rw [g3,g8,g14,g16,e2]
  simp only [Int.toNat_natCast]
  rw [if_pos (by omega),if_pos (by omega)]
  refine asW32 (by omega) ?_
  rw [if_pos (by omega)]
  refine asW32 (by omega) ?_
  rw [if_pos (by omega)]
  refine asW32 (by omega) ?_
  simp only [lt,wi_xor]
  rw [if_pos (by omega)]
  refine asW32 (by omega) ?_
  rw [wi_xor]
  refine rTurn _ 1 (by omega) (by omega) ?_
  rw [if_pos (room4 _ (by simp; omega)),W32V_one,W32V_app]
  refine (congrArg k ?_).mp hk'
  simp only [wordsN,next,hl]
theorem rBlock (b:List UInt8) (hb:b.length=64) (h:St5) {K:T5→Prop} (hk:K (t5s (blockL h b))):Xq0k (t5s h) (BV b) K:=by
 unfold Xq0k Yq0k
 rw [zeros5]
 refine lp_at (fun j=>((BV b,(),(),(),(j:Int),()),t5s h,agL .u32 5 (fun _=>0),W32V (first b j),())) 16 rfl fun n hn k hkk=>?_
 unfold Lq0k_0
 simp only [decide_eq_true_eq,BV_len,W32V_len,hb]
 by_cases e:n=16
 ·subst e
  rw [if_neg (by omega)]
  exact rSched b h _ hk
 ·have hn':n < 16:=by omega
  have hk':=hkk hn'
  have e4:w64 (4 * (n:Int))=((4 * n:Nat):Int):=by rw [w64_in (by omega) (by omega)]; omega
  have e5:w64 (((4 * n:Nat):Int)+1)=((4 * n+1:Nat):Int):=by rw [w64_in (by omega) (by omega)]; omega
  have e6:w64 (((4 * n:Nat):Int)+2)=((4 * n+2:Nat):Int):=by rw [w64_in (by omega) (by omega)]; omega
  have e7:w64 (((4 * n:Nat):Int)+3)=((4 * n+3:Nat):Int):=by rw [w64_in (by omega) (by omega)]; omega
  have e1:w64 ((n:Int)+1)=((n+1:Nat):Int):=by rw [w64_in (by omega) (by omega)]; omega
  rw [e4,e5,e6,e7,e1]
  simp only [lt,Int.toNat_natCast]
  rw [if_pos (by omega),if_pos (by omega)]
  refine asB (by omega) ?_
  rw [if_pos (by omega)]
  refine asB (by omega) ?_
  rw [if_pos (by omega)]
  refine asB (by omega) ?_
  rw [if_pos (by omega)]
  refine asB (by omega) ?_
  have s24:=fun x:W32=>wi_shl x 24
  have s16:=fun x:W32=>wi_shl x 16
  have s8:=fun x:W32=>wi_shl x 8
  simp only [show ((2:Int) ^ 24)=16777216 from rfl,show ((2:Int) ^ 16)=65536 from rfl,show ((2:Int) ^ 8)=256 from rfl] at s24 s16 s8
  simp only [wu32_bi,s24,s16,s8,wi_or,word_or]
  rw [if_pos (room4 _ (by simp [first]; omega)),W32V_one,W32V_app]
  refine (congrArg k ?_).mp hk'
  rw [first_succ,wordAt,take4 b (4 * n) (by omega)]
end Go.Proofs.YtdjldmolhkkipaaGreatDoor
end
section
set_option linter.unusedVariables false
set_option linter.unusedSimpArgs false
namespace Go.Proofs.YtdjldmolhkkipaaGreatDoor
open Go Go.Proofs.YtdjldmolhkkipaaGreatDoor.Eng Go.Proofs.YtdjldmolhkkipaaGreatDoor.Pl
set_option maxRecDepth 100000
set_option maxHeartbeats 2000000
theorem rBytes (s:St5) (u:Nat→UInt8) (hu:∀ n,n < 20→u n=UInt8.ofNat ((s.at (n / 4)).toNat / 2 ^ (24 - 8 * (n % 4)))) {K:T20→Prop} (k4) (h:K (t20 u)) :
  lp (Lq1q_1 K k4) (((),(),(),0,()),agL .u8 20 (fun _=>0),agL .u32 5 (fun q=>wi (s.at q)),agL .u8 20 (fun _=>0),()):=by
 refine lp_at (fun j=>(((),(),(),(j:Int),()),agL .u8 20 (fun _=>0),agL .u32 5 (fun q=>wi (s.at q)),agL .u8 20 (part u j),())) 20 rfl fun n hn k hk=>?_
 unfold Lq1q_1
 simp only [decide_eq_true_eq]
 by_cases e:n=20
 ·subst e
  rw [if_neg (show ¬ ((20:Nat):Int) < 20 by omega)]
  rw [read20z u (part u 20) (fun _=>0) (fun i hi=>if_pos hi)]
  exact h
 ·have hn':n < 20:=by omega
  have hk':=hk hn'
  rw [← part_next] at hk'
  have e4:w64 (Int.tdiv (n:Int) 4)=((n / 4:Nat):Int):=by
   rw [Int.tdiv_eq_ediv_of_nonneg (by omega),w64_in (by omega) (by omega)]; omega
  have e5:w64 (24 - w64 (8 * Int.tmod (n:Int) 4))=((24 - 8 * (n % 4):Nat):Int):=by
   rw [Int.tmod_eq_emod_of_nonneg (by omega),w64_in (n:=8 * ((n:Int) % 4)) (by omega) (by omega),w64_in (by omega) (by omega)]; omega
  have e1:w64 ((n:Int)+1)=((n+1:Nat):Int):=by rw [w64_in (by omega) (by omega)]; omega
  rw [e4,e5,e1]
  simp only [Int.toNat_natCast,Nat.mul_one,Nat.zero_add,lt]
  rw [if_pos (by omega),if_pos (by omega)]
  refine asI (by omega) ?_
  rw [if_neg (by omega),if_pos (by omega),if_pos (show (0:Nat) < List.length (agL .u8 20 (part u n)) from Nat.zero_lt_one),if_pos (by show n+1≤20; omega)]
  rw [show min (24 - 8 * (n % 4)) 32=24 - 8 * (n % 4) by omega]
  have e8:=wu8_shr (s.at (n / 4)).toNat (24 - 8 * (n % 4)) (Nat.lt_trans (wi_lt _) (by omega))
  rw [show Int.fdiv (wi (s.at (n / 4))) (2 ^ (24 - 8 * (n % 4)))=Int.fdiv ((s.at (n / 4)).toNat:Int) (2 ^ (24 - 8 * (n % 4))) from rfl,e8,← hu n hn',agL_set (by omega)]
  exact hk'
theorem row_s0:[Eng.V.agg [V.c (.int .u32 1732584193),V.c (.int .u32 4023233417),V.c (.int .u32 2562383102),V.c (.int .u32 271733878),V.c (.int .u32 3285377520)]]=agL .u32 5 (fun q=>wi (s0.at q)):=by kernel_rfl
theorem rSum (b:List UInt8) (hb:b.length≤100000) {K:T20→Prop} (h:K (t20 (digest b))):Xq1q (BV b) K:=by
 unfold Xq1q Yq1q
 refine rPadded b hb ?_
 rw [zeros20,row_s0]
 have hlp:(padL b).length≤1000000:=by simp [padL,be64]; omega
 have hm:=padL_len b
 generalize hp:padL b=l at *
 refine lp_at (fun j=>(((),(),(),((64 * j:Nat):Int),()),agL .u8 20 (fun _=>0),agL .u32 5 (fun q=>wi ((blocksN l s0 j).at q)),(BV l,true,false),())) (l.length / 64) rfl fun n hn k hk=>?_
 unfold Lq1q_0
 simp only [decide_eq_true_eq,BV_len]
 by_cases e:n=l.length / 64
 ·rw [if_neg (by omega),zeros20,e]
  exact rBytes _ (digest b) (fun n hn=>by unfold digest sumS; rw [hp]) _ h
 ·have hn':n < l.length / 64:=by omega
  have hk':=hk hn'
  have e1:w64 (((64 * n:Nat):Int)+64)=((64 * (n+1):Nat):Int):=by rw [w64_in (by omega) (by omega)]; omega
  rw [e1,if_pos (by omega)]
  rw [asIe 0 rfl,asIe 1 rfl,asIe 2 rfl,asIe 3 rfl,asIe 4 rfl]
  rw [if_pos (by omega),if_pos (by omega)]
  simp only [Int.toNat_natCast]
  rw [BV_cut,show 64 * (n+1) - 64 * n=64 by omega]
  refine rBlock _ (by simp; omega) (blocksN l s0 n) ?_
  rw [if_pos (show (0:Nat) < List.length (agL .u32 5 (fun q=>wi ((blocksN l s0 n).at q))) from Nat.zero_lt_one)]
  have es:=setAll5 (fun q=>wi ((blocksN l s0 n).at q)) (fun q=>wi ((blocksN l s0 (n+1)).at q))
  refine (congrArg k ?_).mp hk'
  rw [← es]; rfl
theorem rWords (d:Nat→UInt8) {K:T5→Prop} (h:K (t5 (wordsOf d))):Xq0o (t20 d) K:=by
 unfold Xq0o Yq0o
 rw [zeros5]
 refine lp_at (fun j=>(((),(),(),(j:Int),()),t20 d,agL .u32 5 (fun _=>0),agL .u32 5 (wv d j),())) 20 (by rw [wv_zero]; rfl) fun n hn k hk=>?_
 unfold Lq0o_0
 simp only [decide_eq_true_eq]
 by_cases e:n=20
 ·subst e
  rw [if_neg (by omega)]
  rw [read5z (wordsOf d) (wv d 20) (fun _=>0) (wv_end d)]
  exact h
 ·have hn':n < 20:=by omega
  have hk':=hk hn'
  rw [← wv_next d n hn'] at hk'
  have e4:w64 (Int.tdiv (n:Int) 4)=((n / 4:Nat):Int):=by
   rw [Int.tdiv_eq_ediv_of_nonneg (by omega),w64_in (by omega) (by omega)]; omega
  have e1:w64 ((n:Int)+1)=((n+1:Nat):Int):=by rw [w64_in (by omega) (by omega)]; omega
  rw [e4,e1]
  simp only [Int.toNat_natCast,Nat.mul_one,Nat.zero_add,lt]
  rw [if_pos (by omega),if_pos (by omega)]
  refine asI (by omega) ?_
  rw [if_pos (by omega)]
  refine as20 hn' ?_
  have e8:=wi_shl (word (((dL d).drop (4 * (n / 4))).take (min 4 (n - 4 * (n / 4)))) 0) 8
  rw [show ((2:Int) ^ 8)=256 from rfl] at e8
  rw [show wv d n (n / 4)=wi (word (((dL d).drop (4 * (n / 4))).take (min 4 (n - 4 * (n / 4)))) 0) from rfl]
  simp only [e8,wu32_bi,wi_or]
  rw [if_pos (by omega),if_pos (show (0:Nat) < List.length (agL .u32 5 (wv d n)) from Nat.zero_lt_one),if_pos (by show n / 4+1≤5; omega)]
  rw [agL_set (by omega)]
  exact hk'
def digs:List UInt8:=[48,49,50,51,52,53,54,55,56,57,97,98,99,100,101,102]
theorem digs_cut:∀ a:Fin 16,(digs.drop a.val).take (a.val+1 - a.val)=[hexC a.val]:=by decide
theorem dig_ex (n:Nat) (h:n < 16):ByteArray.extract (ByteArray.mk #[(48:UInt8),(49:UInt8),(50:UInt8),(51:UInt8),(52:UInt8),(53:UInt8),(54:UInt8),(55:UInt8),(56:UInt8),(57:UInt8),(97:UInt8),(98:UInt8),(99:UInt8),(100:UInt8),(101:UInt8),(102:UInt8)]) n (n+1)=S [hexC n]:=by
 show ByteArray.extract (S digs) n (n+1)=_
 rw [S_extract,digs_cut ⟨n,h⟩]
end Go.Proofs.YtdjldmolhkkipaaGreatDoor
end
section
set_option linter.unusedVariables false
set_option linter.unusedSimpArgs false
namespace Go.Proofs.YtdjldmolhkkipaaGreatDoor
open Go Go.Proofs.YtdjldmolhkkipaaGreatDoor.Eng Go.Proofs.YtdjldmolhkkipaaGreatDoor.Pl
set_option maxRecDepth 100000
set_option maxHeartbeats 2000000
theorem xDigit (n:Int) (h0:0≤n∧n≤255) {K:Int→Prop} (h1:48≤n→n≤57→K (n - 48)) (h2:97≤n→n≤102→K (n - 87)) (h3:65≤n→n≤70→K (n - 55))
  (h4:¬ (48≤n∧n≤57)→¬ (97≤n∧n≤102)→¬ (65≤n∧n≤70)→K (-1)):Xq0n n K:=by
 have w1:48≤n→n≤57→w64 (wu8 (n - 48))=n - 48:=fun a b=>by rw [wu8_in (by omega) (by omega),w64_in (by omega) (by omega)]
 have w2:97≤n→n≤102→w64 (w64 (wu8 (n - 97))+10)=n - 87:=fun a b=>by rw [wu8_in (by omega) (by omega),w64_in (n:=n - 97) (by omega) (by omega),w64_in (by omega) (by omega)]; omega
 have w3:65≤n→n≤70→w64 (w64 (wu8 (n - 65))+10)=n - 55:=fun a b=>by rw [wu8_in (by omega) (by omega),w64_in (n:=n - 65) (by omega) (by omega),w64_in (by omega) (by omega)]; omega
 unfold Xq0n Yq0n
 simp only [decide_eq_true_eq,ge_iff_le,lt]
 repeat' (first | refine ifT (by omega) ?_ | refine ifF (by omega) ?_ | refine ifC (fun _=>?_) (fun _=>?_))
 all_goals first
  | exact h4 (by omega) (by omega) (by omega)
  |(rw [w1 (by omega) (by omega)]; exact h1 (by omega) (by omega))
  |(rw [w2 (by omega) (by omega)]; exact h2 (by omega) (by omega))
  |(rw [w3 (by omega) (by omega)]; exact h3 (by omega) (by omega))
theorem or_dig (n d:Nat) (hd:d < 16):(BitVec.ofNat 32 n <<< 4 ||| BitVec.ofNat 32 d)=BitVec.ofNat 32 (16 * n+d):=by
 apply BitVec.eq_of_toNat_eq
 rw [BitVec.toNat_or,BitVec.toNat_shiftLeft,BitVec.toNat_ofNat,BitVec.toNat_ofNat,BitVec.toNat_ofNat,Nat.mod_eq_of_lt (show d < 2 ^ 32 by omega)]
 rw [show (n % 2 ^ 32) <<< 4 % 2 ^ 32=((16 * n % 2 ^ 32) / 16) <<< 4 by rw [Nat.shiftLeft_eq,Nat.shiftLeft_eq]; omega]
 rw [← Nat.shiftLeft_add_eq_or_of_lt (by omega:d < 2 ^ 4),Nat.shiftLeft_eq]
 omega
theorem xWord (l:List UInt8) {K:Int→Bool→Prop} (h:K (if wordOk l=true then (hexV l:Int) else 0) (wordOk l)):Xq13 (S l) K:=by
 unfold Xq13 Yq13
 rw [S_size]
 have no:wordOk l=false→K 0 false:=fun e=>by rw [e] at h; exact h
 by_cases e0:l.length < 1
 ·rw [if_pos (decide_eq_true (by omega))]; exact no (by unfold wordOk; rw [decide_eq_false (by omega),Bool.false_and])
 rw [if_neg (dneg (by omega))]
 by_cases e8:l.length > 8
 ·rw [if_pos (decide_eq_true (by omega))]; exact no (by unfold wordOk; rw [decide_eq_false (by omega),Bool.false_and])
 rw [if_neg (dneg (by omega))]
 refine lp_ind (fun x=>l.length - x.1.2.2.2.2.1.toNat) (fun x=>∃ i:Nat,i≤l.length∧(l.take i).all isHex=true∧x=((S l,0,false,wi (BitVec.ofNat 32 (hexV (l.take i))),(i:Int),()),())) ?_ ⟨0,Nat.zero_le _,rfl,rfl⟩
 rintro x ⟨i,hi,ha,rfl⟩ k hk
 unfold Lq13_0
 dsimp only
 rw [S_size,Int.toNat_natCast]
 by_cases e:i < l.length
 ·rw [if_pos (decide_eq_true (by omega)),if_pos (by omega),bAt_S,getD_in _ _ _ e]
  have hsn:l.take (i+1)=l.take i++[l[i]]:=List.take_succ_eq_append_getElem e
  have w1:w64 ((i:Int)+1)=((i+1:Nat):Int):=by rw [w64_in (by omega) (by omega)]; omega
  have step:∀ d:Int,isHex l[i]=true→d=(hexD l[i]:Int)→(if decide (d < 0)=true then K 0 false else lt (wu32 (BitVec.toNat (BitVec.ofInt 32 (wu32 (wi (BitVec.ofNat 32 (hexV (l.take i))) * 16)) ||| BitVec.ofInt 32 (wu32 d)):Nat)) fun v4=>k ((S l,0,false,v4,w64 ((i:Int)+1),()),())):=fun d hx hd=>by
   have ha':(l.take (i+1)).all isHex=true:=by rw [hsn,List.all_append,ha]; simpa using hx
   have hdl:=hexD_lt l[i] hx
   rw [if_neg (dneg (by omega)),hd]
   have s1:=wi_shl (BitVec.ofNat 32 (hexV (l.take i))) 4
   rw [show ((2:Int) ^ 4)=16 from rfl] at s1
   rw [s1,wu32_nat (hexD l[i]),wi_or,or_dig _ _ hdl,w1]
   refine hk _ ⟨i+1,e,ha',?_⟩ (by show l.length - Int.toNat ((i+1:Nat):Int) < l.length - Int.toNat (i:Int); omega)
   rw [hsn,hexV_snoc]
  refine xDigit _ (by have:=(l[i]).toNat_lt; omega) (fun a b=>step _ ?_ ?_) (fun a b=>step _ ?_ ?_) (fun a b=>step _ ?_ ?_) (fun a b c=>?_)
  ·unfold isHex; simp; omega
  ·unfold hexD; rw [if_pos (by omega)]; omega
  ·unfold isHex; simp; omega
  ·unfold hexD; rw [if_neg (by omega),if_pos (by omega)]; omega
  ·unfold isHex; simp; omega
  ·unfold hexD; rw [if_neg (by omega),if_neg (by omega)]; omega
  ·rw [if_pos (by decide)]
   refine no ?_
   unfold wordOk
   rw [List.all_eq_false.2 ⟨l[i],List.getElem_mem e,by unfold isHex; simp; omega⟩,Bool.and_false]
 ·have:i=l.length:=by omega
  subst this
  rw [if_neg (dneg (by omega))]
  rw [List.take_length] at ha ⊢
  have ok:wordOk l=true:=by unfold wordOk; rw [ha,decide_eq_true (by omega)]; rfl
  rw [ok,if_pos rfl] at h
  have hv:=hexV_lt l _ (Nat.le_refl _) (by rw [List.take_length]; exact ha)
  rw [List.take_length] at hv
  have hv8:16 ^ l.length≤16 ^ 8:=Nat.pow_le_pow_right (by decide) (by omega)
  have p8:16 ^ 8=4294967296:=by decide
  rw [← wi_lit _ (by omega)]
  exact h
theorem xHash (l:List UInt8) (hl:l.length≤1000000) {K:T5→Bool→Prop} (h:K (t5 (hashW l)) (hashOk l)):Xq1g (S l) K:=by
 unfold Xq1g Yq1g
 refine qWords l hl ?_
 rw [WV_len]
 have no:hashOk l=false→K (0,0,0,0,0,()) false:=fun e=>by
  have:t5 (hashW l)=(0,0,0,0,0,()):=by
   have z:∀ k,hashW l k=0:=fun k=>by unfold hashW; rw [e]; rfl
   simp only [t5,z]; rfl
  rw [this,e] at h; exact h
 by_cases e5:(wordsL l).length=5
 ·rw [if_neg (by simp; omega),zeros5]
  have bad:∀ n,n < 5→wordOk ((wordsL l).getD n [])=false→hashOk l=false:=fun n hn hb=>by
   unfold hashOk
   rw [List.all_eq_false.2 ⟨(wordsL l).getD n [],by rw [getD_in _ _ _ (by omega)]; exact List.getElem_mem _,by simpa using hb⟩,Bool.and_false]
  refine lp_ind (fun x=>5 - x.1.2.2.2.2.1.toNat) (fun x=>∃ (n:Nat),n≤5∧(∀ i,i < n→wordOk ((wordsL l).getD i [])=true) ∧
   x=(((),false,(),(),(n:Int),()),agL .u32 5 (fun _=>0),agL .u32 5 (fun i=>if i < n then (hexV ((wordsL l).getD i []):Int) else 0),(WV (wordsL l),true,false),())) ?_ ⟨0,by omega,by omega,rfl⟩
  rintro x ⟨n,hn,ha,rfl⟩ k hk
  unfold Lq1g_0
  dsimp only
  rw [Int.toNat_natCast,WV_len,e5,agL_len]
  by_cases en:n < 5
  ·rw [if_pos (decide_eq_true (by omega)),if_pos (by omega)]
   refine asWd (by omega) (xWord _ ?_)
   cases hc:wordOk ((wordsL l).getD n [])
   ·rw [if_pos (by simp),if_pos (by omega)]
    have:=eset5z (fun _=>0) (fun _=>0)
    simp only [lt]
    rw [this]
    rw [asIe 0 rfl,asIe 1 rfl,asIe 2 rfl,asIe 3 rfl,asIe 4 rfl]
    exact no (bad n en hc)
   ·rw [if_neg (by simp),if_pos rfl,if_pos (by omega),agL_len,if_pos (by omega),if_pos (by rw [List.length_singleton]; omega)]
    simp only [lt]
    rw [show 0+n * 1=n by omega,agL_set en]
    have w1:w64 ((n:Int)+1)=((n+1:Nat):Int):=by rw [w64_in (by omega) (by omega)]; omega
    rw [w1]
    refine hk _ ⟨n+1,en,fun i hi=>?_,?_⟩ (by show 5 - Int.toNat ((n+1:Nat):Int) < 5 - Int.toNat (n:Int); omega)
    ·by_cases ei:i=n
     ·subst ei; exact hc
     ·exact ha i (by omega)
    ·have ec:agL .u32 5 (updF (fun i=>if i < n then (hexV ((wordsL l).getD i []):Int) else 0) n (hexV ((wordsL l).getD n []):Int))=agL .u32 5 (fun i=>if i < n+1 then (hexV ((wordsL l).getD i []):Int) else 0):=agL_congr fun i hi=>by
      unfold updF
      dsimp only
      by_cases ei:i=n
      ·subst ei; rw [if_pos rfl,if_pos (by omega)]
      ·rw [if_neg ei]
       by_cases hin:i < n
       ·rw [if_pos hin,if_pos (by omega)]
       ·rw [if_neg hin,if_neg (by omega)]
     rw [ec]
  ·have:n=5:=by omega
   subst this
   rw [if_neg (by simp)]
   have ok:hashOk l=true:=by
    unfold hashOk
    rw [e5]
    refine List.all_eq_true.2 fun w hw=>?_
    obtain ⟨i,hi,rfl⟩:=List.getElem_of_mem hw
    have:=ha i (by omega)
    rwa [getD_in _ _ _ hi] at this
   have hf:∀ i,i < 5→(fun i=>if i < 5 then (hexV ((wordsL l).getD i []):Int) else 0) i=wi (hashW l i):=fun i hi=>by
    dsimp only
    unfold hashW
    rw [if_pos hi,if_pos ok]
    have hw:=ha i hi
    unfold wordOk at hw
    rw [Bool.and_eq_true,decide_eq_true_eq] at hw
    have hv:=hexV_lt ((wordsL l).getD i []) _ (Nat.le_refl _) (by rw [List.take_length]; exact hw.2)
    rw [List.take_length] at hv
    have hv8:16 ^ ((wordsL l).getD i []).length≤16 ^ 8:=Nat.pow_le_pow_right (by decide) (by omega)
    have p8:16 ^ 8=4294967296:=by decide
    exact wi_lit _ (by omega)
   rw [ok] at h
   exact (read5z (hashW l) _ (fun _=>0) hf (K:=fun t=>K t true)).mpr h
 ·rw [if_pos (by simp; omega)]
  exact no (by unfold hashOk; rw [show ((wordsL l).length == 5)=false by simpa using e5,Bool.false_and])
theorem xPosix (n:Int) (hn:n≤9223372036854775807) {K:Int→Bool→Prop} (h:K (if n < 0 then 0 else n - 2208988800) (decide (0≤n))):Xq0q n K:=by
 unfold Xq0q Yq0q
 by_cases e:n < 0
 ·rw [if_pos (decide_eq_true e)]
  rw [if_pos e,decide_eq_false (by omega)] at h; exact h
 ·rw [if_neg (dneg e)]
  rw [if_neg e,decide_eq_true (by omega)] at h
  rw [w64_in (n:=n - 2208988800) (by omega) (by omega)]; exact h
theorem xNtp (p:Int) (h0:-2208988800≤p) (h1:p≤9223372034645786000) {K:Int→Bool→Prop} (h:K (p+2208988800) true):Xq1h p K:=by
 unfold Xq1h Yq1h
 rw [if_neg (dneg (by omega)),if_neg (dneg (by omega)),w64_in (n:=p+2208988800) (by omega) (by omega)]
 exact h
end Go.Proofs.YtdjldmolhkkipaaGreatDoor
end
section
set_option linter.unusedVariables false
set_option linter.unusedSimpArgs false
namespace Go.Proofs.YtdjldmolhkkipaaGreatDoor
open Go Go.Proofs.YtdjldmolhkkipaaGreatDoor.Eng Go.Proofs.YtdjldmolhkkipaaGreatDoor.Pl
set_option maxRecDepth 100000
set_option maxHeartbeats 2000000
def RXE (x:RX):V:=.agg [.c (.int .i64 x.k),.c (.bool x.ok),.sl 1 false (WV x.ws),.c (.int .i64 x.one),.c (.int .i64 x.two)]
def RXV (X:List RX):List V:=X.map RXE
theorem RXV_len (X:List RX):(RXV X).length=X.length:=by simp [RXV]
theorem RXV_app (X:List RX) (x:RX):RXV X++[RXE x]=RXV (X++[x]):=by simp [RXV]
theorem asX0 {X:List RX} {i:Nat} (h:i < X.length) {F:Prop} {K:Int→Prop} (hk:K (X.getD i rx0).k):Eng.asInt .i64 (getC (RXV X) i 0) F K:=by
 have:getC (RXV X) i 0=some (.c (.int .i64 (X.getD i rx0).k)):=by simp [getC,RXV,RXE,V.cells,h,List.getD]
 rw [this]; simpa [Eng.asInt] using hk
theorem asX1 {X:List RX} {i:Nat} (h:i < X.length) {F:Prop} {K:Bool→Prop} (hk:K (X.getD i rx0).ok):Eng.asBool (getC (RXV X) i 1) F K:=by
 have:getC (RXV X) i 1=some (.c (.bool (X.getD i rx0).ok)):=by simp [getC,RXV,RXE,V.cells,h,List.getD]
 rw [this]; simpa [Eng.asBool] using hk
theorem asX2 {X:List RX} {i:Nat} (h:i < X.length) {F:Prop} {K:Bool→List V→Prop} (hk:K false (WV (X.getD i rx0).ws)):Eng.asSl 1 (getC (RXV X) i 2) F K:=by
 have:getC (RXV X) i 2=some (.sl 1 false (WV (X.getD i rx0).ws)):=by simp [getC,RXV,RXE,V.cells,h,List.getD]
 rw [this]; simpa [Eng.asSl] using hk
theorem asX3 {X:List RX} {i:Nat} (h:i < X.length) {F:Prop} {K:Int→Prop} (hk:K (X.getD i rx0).one):Eng.asInt .i64 (getC (RXV X) i 3) F K:=by
 have:getC (RXV X) i 3=some (.c (.int .i64 (X.getD i rx0).one)):=by simp [getC,RXV,RXE,V.cells,h,List.getD]
 rw [this]; simpa [Eng.asInt] using hk
theorem asX4 {X:List RX} {i:Nat} (h:i < X.length) {F:Prop} {K:Int→Prop} (hk:K (X.getD i rx0).two):Eng.asInt .i64 (getC (RXV X) i 4) F K:=by
 have:getC (RXV X) i 4=some (.c (.int .i64 (X.getD i rx0).two)):=by simp [getC,RXV,RXE,V.cells,h,List.getD]
 rw [this]; simpa [Eng.asInt] using hk
theorem xBegins (a b:List UInt8) {K:Bool→Prop} (h:K (preB a b)):Xq0e (S a) (S b) K:=by
 unfold Xq0e Yq0e
 simp only [S_size,S_extract,S_toList,Int.toNat_natCast,List.drop_zero,Nat.sub_zero]
 unfold preB at h
 by_cases e:b.length≤a.length
 ·rw [if_pos (decide_eq_true (by omega)),if_pos (by omega)]; exact h
 ·rw [if_neg (dneg (by omega))]
  have:(a.take b.length == b)=false:=by
   simp only [beq_eq_false_iff_ne]
   intro hh
   have:=congrArg List.length hh
   simp at this; omega
  rw [this] at h; exact h
theorem xRead (s:List UInt8) (hs:s.length≤1000000) {K:Int×Bool×Unit×Int×Int×Unit→List V→Bool→Bool→Prop}
  (h:∀ o f,K ((rreadL s).k,(rreadL s).ok,(),(rreadL s).one,(rreadL s).two,()) (WV (rreadL s).ws) o f):Xq11 (S s) K:=by
 unfold Xq11 Yq11
 refine qWords s hs ?_
 rw [WV_len]
 unfold rreadL at h
 by_cases e0:wordsL s=[]
 ·rw [if_pos (by simp [e0])]
  rw [if_pos e0] at h
  exact h _ _
 have hpos:0 < (wordsL s).length:=List.length_pos_iff.2 e0
 rw [if_neg (by simpa using e0)]
 rw [if_neg e0] at h
 have ed:ByteArray.extract (S s) 2 (Int.toNat (((S s).size:Nat):Int))=S (s.drop 2):=by
  rw [S_extract,S_size,Int.toNat_natCast,List.take_of_length_le (by rw [List.length_drop]; omega)]
 have hdl:(s.drop 2).length≤1000000:=by rw [List.length_drop]; omega
 have two:s.take 2=kStamp∨s.take 2=kExp∨s.take 2=kHash→2≤s.length:=fun q=>by
  have:(s.take 2).length=2:=by rcases q with q | q | q <;> rw [q] <;> rfl
  rw [List.length_take] at this; omega
 have pre:∀ b:UInt8,preB s [35,b]=(s.take 2 == [35,b]):=fun b=>rfl
 refine xBegins s [35,104] ?_
 rw [pre]
 by_cases e3:s.take 2=kHash
 ·have hs2:=two (.inr (.inr e3))
  rw [if_pos (by rw [e3]; rfl),S_size,if_pos (by omega),if_pos (by omega),← S_size s,ed]
  rw [if_pos e3] at h
  refine xHash _ hdl ?_
  rw [S_size,if_pos (by omega),if_pos (by omega)]
  exact h _ _
 rw [if_neg (by simpa using e3)]
 rw [if_neg e3] at h
 have kind:∀ k:Int,(∀ o f,K ((rkind k (s.drop 2)).k,(rkind k (s.drop 2)).ok,(),(rkind k (s.drop 2)).one,(rkind k (s.drop 2)).two,()) (WV (rkind k (s.drop 2)).ws) o f)→Xq0l (S (s.drop 2)) (fun r8 r9 r10=>if ((((r8.length:Nat):Int)) != 1)=true then K (k,false,(),0,0,()) [] true true else
   if 0≤(0:Int)∧(0:Int) < ((r8.length:Nat):Int) then Eng.asStr (getC r8 0 0) False fun t11=>Xq0g t11 (fun r12 r13=>K (k,r13,(),r12,0,()) r8 r9 r10) else False):=fun k hk=>by
  refine qWords _ hdl ?_
  rw [WV_len]
  unfold rkind at hk
  by_cases q:(wordsL (s.drop 2)).length=1
  ·rw [if_neg (by simp [q]),if_pos (by omega)]
   rw [if_neg (fun z=>z q)] at hk
   have hwl:((wordsL (s.drop 2)).getD 0 []).length≤(s.drop 2).length:=by rw [getD_in _ _ _ (by omega)]; exact words_mem_len _ _ (List.getElem_mem _)
   refine asWd (by omega) (qNumber _ (by omega) ?_)
   exact hk _ _
  ·rw [if_pos (by simp; omega)]
   rw [if_pos q] at hk
   exact hk _ _
 refine xBegins s [35,36] ?_
 rw [pre]
 by_cases e1:s.take 2=kStamp
 ·have hs2:=two (.inl e1)
  have hb:Eng.bAt (S s) 1=36:=by
   have:=congrArg (fun l=>l.getD 1 0) e1
   rw [bAt_S]
   have e:(s.take 2).getD 1 0=s.getD 1 0:=by rw [getD_in _ _ _ (by rw [List.length_take]; omega),getD_in _ _ _ (by omega),List.getElem_take]
   rw [← e,e1]; rfl
  rw [if_pos (by rw [e1]; rfl),if_pos (by rw [S_size]; omega),hb,if_neg (by decide),if_pos (by omega),if_pos (by rw [S_size]; omega),ed]
  rw [if_pos e1] at h
  exact kind 1 h
 rw [if_neg (by simpa using e1)]
 rw [if_neg e1] at h
 refine xBegins s [35,64] ?_
 rw [pre]
 by_cases e2:s.take 2=kExp
 ·have hs2:=two (.inr (.inl e2))
  have hb:Eng.bAt (S s) 1=64:=by
   rw [bAt_S]
   have e:(s.take 2).getD 1 0=s.getD 1 0:=by rw [getD_in _ _ _ (by rw [List.length_take]; omega),getD_in _ _ _ (by omega),List.getElem_take]
   rw [← e,e2]; rfl
  rw [if_pos (by rw [e2]; rfl),if_pos (by rw [S_size]; omega),hb,if_pos (by decide),if_pos (by omega),if_pos (by rw [S_size]; omega),ed]
  rw [if_pos e2] at h
  exact kind 2 h
 rw [if_neg (by simpa using e2)]
 rw [if_neg e2] at h
 rw [if_pos (by omega)]
 refine asWd hpos (xBegins _ [35] ?_)
 by_cases e4:preB ((wordsL s).getD 0 []) kRem=true
 ·rw [if_pos e4]
  rw [if_pos e4] at h
  exact h _ _
 rw [if_neg e4]
 rw [if_neg e4] at h
 unfold Xq0p Yq0p
 refine qCut s 35 (by omega) ?_
 have hbare:(splitL 35 s).1=bareL s:=by
  unfold splitL bareL
  split
  ·rfl
  ·rename_i hh
   have:=nl_le (· == (35:UInt8)) s
   rw [List.take_of_length_le (by omega)]
 rw [hbare]
 have hbl:=bare_len' s
 refine qWords _ (by omega) ?_
 rw [WV_len]
 unfold rdata at h
 by_cases q:(wordsL (bareL s)).length=2
 ·rw [if_neg (by simp [q]),if_pos (by omega)]
  rw [if_neg (fun z=>z q)] at h
  have hwl:∀ i,i < 2→((wordsL (bareL s)).getD i []).length≤s.length:=fun i hi=>by rw [getD_in _ _ _ (by omega)]; exact Nat.le_trans (words_mem_len _ _ (List.getElem_mem _)) hbl
  refine asWd (by omega) (qNumber _ (Nat.le_trans (hwl 0 (by omega)) hs) ?_)
  rw [if_pos (by omega)]
  refine asWd (by omega) (qNumber _ (Nat.le_trans (hwl 1 (by omega)) hs) ?_)
  dsimp only at h
  cases n1:(numL ((wordsL (bareL s)).getD 0 [])).2
  ·rw [if_neg (by simp)]
   rw [n1] at h
   exact h _ _
  ·rw [if_pos rfl]
   rw [n1] at h
   exact h _ _
 ·rw [if_pos (by simp; omega)]
  rw [if_pos q] at h
  exact h _ _
def rrowsL (s:List UInt8):List RX:=(linesL s).map rreadL
theorem xRows (s:List UInt8) (hs:s.length≤1000000) {K:List V→Bool→Bool→Prop} (h:K (RXV (rrowsL s)) true false):Xq14 (S s) K:=by
 unfold Xq14 Yq14
 refine qSplit s hs ?_
 have hll:=lines_len s
 refine lp_ind (fun x=>(linesL s).length - x.1.2.2.2.1.toNat) (fun x=>∃ j:Nat,j≤(linesL s).length∧x=(((),(),(),(j:Int),()),(WV (linesL s),true,false),RXV (((linesL s).take j).map rreadL),())) ?_ ⟨0,Nat.zero_le _,rfl⟩
 rintro x ⟨j,hj,rfl⟩ k hk
 unfold Lq14_0
 dsimp only
 rw [WV_len,Int.toNat_natCast]
 by_cases e:j < (linesL s).length
 ·rw [if_pos (decide_eq_true (by omega)),if_pos (by omega)]
  have hwl:((linesL s).getD j []).length≤s.length:=by rw [getD_in _ _ _ e]; exact lines_mem_len s _ (List.getElem_mem _)
  refine asWd e (xRead _ (by omega) fun o f=>?_)
  rw [if_pos (eroom _ _ (by rw [RXV_len,List.length_map,List.length_take,List.length_singleton]; omega) (by decide))]
  have w1:w64 ((j:Int)+1)=((j+1:Nat):Int):=by rw [w64_in (by omega) (by omega)]; omega
  have e1:(linesL s).take (j+1)=(linesL s).take j++[(linesL s).getD j []]:=by rw [getD_in _ _ _ e]; exact List.take_succ_eq_append_getElem e
  have e2:RXV (((linesL s).take j).map rreadL)++[RXE (rreadL ((linesL s).getD j []))]=RXV (((linesL s).take (j+1)).map rreadL):=by rw [e1,RXV_app,List.map_append]; rfl
  simp only [lt]
  rw [w1]
  refine hk _ ⟨j+1,e,?_⟩ (by show (linesL s).length - Int.toNat ((j+1:Nat):Int) < (linesL s).length - Int.toNat (j:Int); omega)
  rw [← e2]; rfl
 ·have:j=(linesL s).length:=by omega
  subst this
  rw [if_neg (dneg (by omega)),List.take_length]
  exact h
theorem xFind (X:List RX) (k:Int) (hl:X.length≤1000000) {K:Int→Prop} (h:K (findX k X)):Xq15 (RXV X) k K:=by
 unfold Xq15 Yq15
 refine lp_ind (fun x=>X.length - x.1.2.2.2.1.toNat) (fun x=>∃ j:Nat,j≤X.length∧(∀ i,i < j→(X.getD i rx0).k≠k)∧x=((RXV X,k,0,(j:Int),()),())) ?_ ⟨0,Nat.zero_le _,fun i hi=>absurd hi (Nat.not_lt_zero i),rfl⟩
 rintro x ⟨j,hj,hno,rfl⟩ kk hkk
 unfold Lq15_0
 dsimp only
 rw [RXV_len,Int.toNat_natCast]
 by_cases e:j < X.length
 ·rw [if_pos (decide_eq_true (by omega)),if_pos (by omega)]
  refine asX0 e ?_
  by_cases q:(X.getD j rx0).k=k
  ·rw [if_pos (by simpa using q)]
   rw [find_at k X j e q hno] at h; exact h
  ·have w1:w64 ((j:Int)+1)=((j+1:Nat):Int):=by rw [w64_in (by omega) (by omega)]; omega
   rw [if_neg (by simpa using q),w1]
   refine hkk _ ⟨j+1,e,fun i hi=>?_,rfl⟩ (by show X.length - Int.toNat ((j+1:Nat):Int) < X.length - Int.toNat (j:Int); omega)
   by_cases ei:i=j
   ·rw [ei]; exact q
   ·exact hno i (by omega)
 ·rw [if_neg (dneg (by omega))]
  rw [find_no k X (fun m hm=>hno m (by omega))] at h; exact h
end Go.Proofs.YtdjldmolhkkipaaGreatDoor
end
section
set_option linter.unusedVariables false
set_option linter.unusedSimpArgs false
namespace Go.Proofs.YtdjldmolhkkipaaGreatDoor
open Go Go.Proofs.YtdjldmolhkkipaaGreatDoor.Eng Go.Proofs.YtdjldmolhkkipaaGreatDoor.Pl
set_option maxRecDepth 100000
set_option maxHeartbeats 2000000
def partX (X:List RX) (k:Nat):List UInt8:=if k=3∨k=4 then [] else hashX X k
theorem hashX_snoc (X:List RX) (x:RX) (k:Int):hashX (X++[x]) k=hashX X k++(if x.k=k∧x.ok=true then x.ws.flatten else []):=by simp [hashX]
theorem hashX_take (X:List RX) (k:Int) (i:Nat):(hashX (X.take i) k).length≤(hashX X k).length:=by
 have h:∀ A B:List RX,hashX (A++B) k=hashX A k++hashX B k:=fun A B=>by simp [hashX]
 have:hashX X k=hashX (X.take i) k++hashX (X.drop i) k:=by rw [← h,List.take_append_drop]
 rw [this,List.length_append]; omega
theorem hashX_row (X:List RX) (k:Int) (i:Nat) (h:i < X.length) (hk:(X.getD i rx0).k=k∧(X.getD i rx0).ok=true):(hashX (X.take i) k).length+(X.getD i rx0).ws.flatten.length≤(hashX X k).length:=by
 have e:X.take (i+1)=X.take i++[X.getD i rx0]:=by rw [getD_in _ _ _ h]; exact List.take_succ_eq_append_getElem h
 have:=hashX_take X k (i+1)
 rw [e,hashX_snoc,if_pos hk,List.length_append] at this
 exact this
theorem xHashed (X:List RX) (hn:X.length≤1000000) (hb:∀ k:Int,(hashX X k).length≤1000000) (hws:∀ x∈X,x.ws.length≤1000000) {K:ByteArray→Prop} (h:K (S (hashX X 1++(hashX X 2++hashX X 5)))):Xq0i (RXV X) K:=by
 unfold Xq0i Yq0i
 refine lp_ind (fun x=>6 - x.1.2.2.2.1.toNat) (fun x=>∃ (k:Nat) (A:List UInt8),1≤k∧k≤6∧A=((List.range (k - 1)).map fun i=>partX X (i+1)).flatten∧A.length≤(k - 1) * 1000000∧x=((RXV X,ByteArray.mk #[],S A,(k:Int),()),())) ?_ ⟨1,[],by omega,by omega,rfl,by simp,rfl⟩
 rintro x ⟨k,A,hk1,hk6,hA,hAl,rfl⟩ kk hkk
 unfold Lq0i_0
 dsimp only
 by_cases e:k≤5
 ·rw [if_pos (decide_eq_true (by omega))]
  have hAl':A.length≤5000000:=by
   have:(k - 1) * 1000000≤4 * 1000000:=Nat.mul_le_mul_right _ (by omega)
   omega
  refine lp_ind (fun x=>X.length - x.1.2.2.2.2.1.toNat) (fun x=>∃ i:Nat,i≤X.length∧x=((RXV X,ByteArray.mk #[],S (A++partX (X.take i) k),(k:Int),(i:Int),()),())) ?_ ⟨0,Nat.zero_le _,by simp [partX,hashX]⟩
  rintro x ⟨i,hi,rfl⟩ k3 hk3
  unfold Lq0i_1
  dsimp only
  rw [RXV_len,Int.toNat_natCast]
  have w1:w64 ((i:Int)+1)=((i+1:Nat):Int):=by rw [w64_in (by omega) (by omega)]; omega
  by_cases ei:i < X.length
  ·rw [if_pos (decide_eq_true (by omega)),if_pos (by omega)]
   have et:X.take (i+1)=X.take i++[X.getD i rx0]:=by rw [getD_in _ _ _ ei]; exact List.take_succ_eq_append_getElem ei
   have mu:X.length - Int.toNat ((i+1:Nat):Int) < X.length - Int.toNat (i:Int):=by omega
   have skip:((k=3∨k=4)∨¬ ((X.getD i rx0).k=(k:Int)∧(X.getD i rx0).ok=true))→k3 ((RXV X,ByteArray.mk #[],S (A++partX (X.take i) k),(k:Int),w64 ((i:Int)+1),()),()):=fun q=>by
    rw [w1]
    refine hk3 _ ⟨i+1,ei,?_⟩ mu
    have:partX (X.take (i+1)) k=partX (X.take i) k:=by
     unfold partX
     by_cases q3:k=3∨k=4
     ·rw [if_pos q3,if_pos q3]
     ·rw [if_neg q3,if_neg q3,et,hashX_snoc,if_neg (q.resolve_left q3),List.append_nil]
    rw [this]
   refine asX0 ei ?_
   by_cases q1:(X.getD i rx0).k=(k:Int)
   ·rw [if_neg (by rw [bne_iff_ne]; exact fun z=>z q1),if_pos (by omega)]
    refine asX1 ei ?_
    by_cases q2:(X.getD i rx0).ok=true
    ·rw [if_neg (by rw [q2]; simp)]
     by_cases q3:k=3
     ·rw [if_pos (by rw [q3]; rfl)]; exact skip (.inl (.inl q3))
     rw [if_neg (by rw [beq_iff_eq]; omega)]
     by_cases q4:k=4
     ·rw [if_pos (by rw [q4]; rfl)]; exact skip (.inl (.inr q4))
     rw [if_neg (by rw [beq_iff_eq]; omega)]
     have hrow:=hashX_row X k i ei ⟨q1,q2⟩
     have hbk:=hb k
     have hp:partX (X.take i) k=hashX (X.take i) k:=by unfold partX; rw [if_neg (by omega)]
     have hwl:=hws (X.getD i rx0) (by rw [getD_in _ _ _ ei]; exact List.getElem_mem _)
     refine lp_ind (fun x=>(X.getD i rx0).ws.length - x.1.2.2.2.2.2.1.toNat) (fun x=>∃ m:Nat,m≤(X.getD i rx0).ws.length∧x=((RXV X,ByteArray.mk #[],S (A++partX (X.take i) k++((X.getD i rx0).ws.take m).flatten),(k:Int),(i:Int),(m:Int),()),())) ?_ ⟨0,Nat.zero_le _,by simp⟩
     rintro x ⟨m,hm,rfl⟩ k7 hk7
     unfold Lq0i_2
     dsimp only
     rw [RXV_len,Int.toNat_natCast,if_pos (by omega)]
     refine asX2 ei ?_
     rw [WV_len]
     by_cases em:m < (X.getD i rx0).ws.length
     ·rw [if_pos (decide_eq_true (by omega)),if_pos (by omega)]
      refine asX2 ei ?_
      rw [WV_len,if_pos (by omega),Int.toNat_natCast]
      refine asWd em ?_
      have e2:(X.getD i rx0).ws.take (m+1)=(X.getD i rx0).ws.take m++[(X.getD i rx0).ws.getD m []]:=by rw [getD_in _ _ _ em]; exact List.take_succ_eq_append_getElem em
      have hfl:((X.getD i rx0).ws.take (m+1)).flatten.length≤(X.getD i rx0).ws.flatten.length:=by
       have:(X.getD i rx0).ws.flatten=((X.getD i rx0).ws.take (m+1)).flatten++((X.getD i rx0).ws.drop (m+1)).flatten:=by rw [← List.flatten_append,List.take_append_drop]
       rw [this,List.length_append]; omega
      rw [e2,List.flatten_append,List.flatten_singleton,List.length_append] at hfl
      rw [S_size,S_size,if_neg (by rw [List.length_append,List.length_append,hp]; omega),S_append]
      have w2:w64 ((m:Int)+1)=((m+1:Nat):Int):=by rw [w64_in (by omega) (by omega)]; omega
      rw [w2]
      refine hk7 _ ⟨m+1,em,?_⟩ (by show (X.getD i rx0).ws.length - Int.toNat ((m+1:Nat):Int) < (X.getD i rx0).ws.length - Int.toNat (m:Int); omega)
      rw [e2,List.flatten_append,List.flatten_singleton,List.append_assoc (A++partX (X.take i) k)]
     ·have:m=(X.getD i rx0).ws.length:=by omega
      subst this
      rw [if_neg (dneg (by omega)),List.take_length,w1]
      refine hk3 _ ⟨i+1,ei,?_⟩ mu
      have:partX (X.take (i+1)) k=partX (X.take i) k++(X.getD i rx0).ws.flatten:=by
       unfold partX
       rw [if_neg (by omega),if_neg (by omega),et,hashX_snoc,if_pos ⟨q1,q2⟩]
      rw [this,List.append_assoc]
    ·rw [if_pos (by simpa using q2)]
     exact skip (.inr fun z=>q2 z.2)
   ·rw [if_pos (by rw [bne_iff_ne]; exact q1)]
    exact skip (.inr fun z=>q1 z.1)
  ·have:i=X.length:=by omega
   subst this
   rw [if_neg (dneg (by omega)),List.take_length]
   have w2:w64 ((k:Int)+1)=((k+1:Nat):Int):=by rw [w64_in (by omega) (by omega)]; omega
   rw [w2]
   have hpl:(partX X k).length≤1000000:=by
    unfold partX
    split
    ·exact Nat.zero_le _
    ·exact hb k
   refine hkk _ ⟨k+1,A++partX X k,by omega,by omega,?_,?_,rfl⟩ (by show 6 - Int.toNat ((k+1:Nat):Int) < 6 - Int.toNat (k:Int); omega)
   ·rw [show k+1 - 1=(k - 1)+1 by omega,List.range_succ,List.map_append,List.flatten_append,← hA]
    simp [show k - 1+1=k by omega]
   ·rw [List.length_append,show k+1 - 1=(k - 1)+1 by omega,Nat.add_mul]; omega
 ·have:k=6:=by omega
  subst this
  rw [if_neg (dneg (by omega)),hA]
  have:((List.range (6 - 1)).map fun i=>partX X (i+1)).flatten=hashX X 1++(hashX X 2++hashX X 5):=by simp [List.range,List.range.loop,partX]
  rw [this]; exact h
theorem rrows_hash (s:List UInt8):hashX (rrowsL s) 1++(hashX (rrowsL s) 2++hashX (rrowsL s) 5)=hashedL (rowsL s):=by
 unfold rrowsL
 rw [hashX_eq _ 1 kStamp (.inl ⟨rfl,rfl⟩),hashX_eq _ 2 kExp (.inr (.inl ⟨rfl,rfl⟩)),hashX_eq _ 5 [] (.inr (.inr ⟨rfl,rfl⟩))]
 rfl
end Go.Proofs.YtdjldmolhkkipaaGreatDoor
end
section
set_option linter.unusedVariables false
set_option linter.unusedSimpArgs false
namespace Go.Proofs.YtdjldmolhkkipaaGreatDoor
open Go Go.Proofs.YtdjldmolhkkipaaGreatDoor.Eng Go.Proofs.YtdjldmolhkkipaaGreatDoor.Pl
set_option maxRecDepth 100000
set_option maxHeartbeats 2000000
theorem rread_len (x:List UInt8):(rreadL x).ws.flatten.length≤x.length∧(rreadL x).ws.length≤x.length+1:=by
 have rk:∀ k,(rkind k (x.drop 2)).ws.flatten.length≤x.length∧(rkind k (x.drop 2)).ws.length≤x.length+1:=fun k=>by
  unfold rkind
  have h1:=words_sum1 (x.drop 2)
  have h2:=words_len (x.drop 2)
  rw [List.length_drop] at h1 h2
  split
  ·exact ⟨Nat.zero_le _,Nat.zero_le _⟩
  ·exact ⟨by dsimp only; rw [List.length_flatten]; omega,by dsimp only; omega⟩
 unfold rreadL
 split
 ·exact ⟨Nat.zero_le _,Nat.zero_le _⟩
 split
 ·exact ⟨by dsimp only; rw [List.flatten_singleton,List.length_drop]; omega,by dsimp only; rw [List.length_singleton]; omega⟩
 split
 ·exact rk 1
 split
 ·exact rk 2
 split
 ·exact ⟨Nat.zero_le _,Nat.zero_le _⟩
 unfold rdata
 have h1:=words_sum1 (bareL x)
 have h2:=words_len (bareL x)
 have h3:=bare_len' x
 split
 ·exact ⟨Nat.zero_le _,Nat.zero_le _⟩
 ·exact ⟨by dsimp only; rw [List.length_flatten]; omega,by dsimp only; omega⟩
theorem hashXs_len (k:Int):∀ L:List (List UInt8),(hashX (L.map rreadL) k).length≤(L.map List.length).sum
 | []=>by simp [hashX]
 | x :: L=>by
  have:=hashXs_len k L
  have h1:=(rread_len x).1
  unfold hashX at this ⊢
  rw [List.map_cons,List.map_cons,List.flatten_cons,List.length_append,List.map_cons,List.sum_cons]
  split
  ·omega
  ·simp at this ⊢; omega
theorem xHash10 (s:List UInt8) (hs:s.length≤30000) {K:T20→Prop} (h:K (t20 (hashL s))):Xq0z (S s) K:=by
 unfold Xq0z Yq0z
 refine xRows s (by omega) ?_
 have h1:=lines_sum s
 have h2:=lines_len s
 refine xHashed (rrowsL s) (by unfold rrowsL; rw [List.length_map]; omega) (fun k=>?_) (fun x hx=>?_) ?_
 ·have:=hashXs_len k (linesL s)
  unfold rrowsL; omega
 ·unfold rrowsL at hx
  obtain ⟨y,hy,rfl⟩:=List.mem_map.1 hx
  have:=(rread_len y).2
  have:=lines_mem_len s y hy
  omega
 ·rw [rrows_hash,bytesV_S]
  have:=(rows_bd s hs).2.2
  exact rSum _ this h
theorem rrows_get (s:List UInt8) (i:Nat) (h:i < (linesL s).length):(rrowsL s).getD i rx0=rreadL ((linesL s).getD i []):=by
 rw [getD_in _ _ _ (by unfold rrowsL; rw [List.length_map]; exact h),getD_in _ _ _ h]
 simp [rrowsL]
theorem rread_hash (x:List UInt8) (h:x.take 2=kHash):(rreadL x).ws=[x.drop 2]:=by
 unfold rreadL
 by_cases e0:wordsL x=[]
 ·exfalso
  have:x=35 :: 104 :: x.drop 2:=by rw [← List.take_append_drop 2 x,h]; rfl
  rw [this] at e0
  unfold wordsL at e0
  rw [wd,if_neg (by decide),wd,if_neg (by decide)] at e0
  exact absurd e0 (by
   have:∀ (l c:List UInt8),c≠[]→wd c l≠[]:=fun l=>by
    induction l with
    | nil=>intro c hc; rw [wd,if_neg hc]; simp
    | cons b r ih =>
             intro c hc; rw [wd]; split
             ·simp
             ·exact ih _ (by simp)
   exact this _ _ (by simp))
 ·rw [if_neg e0,if_pos h]
theorem xNext (s:LS) (k:Int) (ok:Bool) (ws:List V) (n o:Int) (hb:s.bg=true) (hn:0≤n∧n≤9223372036854775807) (ho:0≤o∧o≤9223372036854775807) (hf:0≤s.off∧s.off≤9223372036854775807) (hl:s.ls.length≤100000) {K}
  (h:∀ w f,K ((),false,0,()) (dataL s n o).2 (TLV (dataL s n o).1.ls) w f):Xq19 (TLV s.ls,false,0,()) (k,ok,ws,n,o,()) s.off K:=by
 unfold Xq19 Yq19
 dsimp only
 refine xPosix n hn.2 ?_
 rw [if_neg (by omega)]
 refine rdiv (n - 2208988800) 86400 (by omega) (by omega) (by omega) (by omega) ?_
 rw [w64_in (n:=(n - 2208988800) / 86400 - 1) (by omega) (by omega),w64_in (n:=o - s.off) (by omega) (by omega)]
 unfold dataL at h
 rw [if_neg (by rw [hb]; simp)] at h
 by_cases z:(n - 2208988800) % 86400=0
 ·rw [if_neg (by simpa using z)]
  rw [if_neg (by omega)] at h
  by_cases s1:o - s.off=1
  ·rw [if_neg (by simpa using s1)]
   rw [if_neg (by omega)] at h
   exact qAdd ⟨s.ls,false,0⟩ ((n - 2208988800) / 86400 - 1,o - s.off,false) hl fun w f=>h w f
  ·rw [if_pos (by simpa using s1)]
   by_cases s2:o - s.off=-1
   ·rw [if_neg (by simpa using s2)]
    rw [if_neg (by omega)] at h
    exact qAdd ⟨s.ls,false,0⟩ ((n - 2208988800) / 86400 - 1,o - s.off,false) hl fun w f=>h w f
   ·rw [if_pos (by simpa using s2)]
    rw [if_pos ⟨s1,s2⟩] at h
    exact h _ _
 ·rw [if_pos (by simpa using z)]
  rw [if_pos z] at h
  exact h _ _
theorem data_ok (s:LS) (n o:Int) (hb:s.bg=true) (hc:(dataL s n o).2=0):(dataL s n o).1.off=o∧(dataL s n o).1.bg=true:=by
 unfold dataL at hc ⊢
 rw [if_neg (by rw [hb]; simp)] at hc ⊢
 split at hc
 ·exact absurd (show (5:Int)=0 from hc) (by decide)
 ·rename_i z
  rw [if_neg z]
  split at hc
  ·exact absurd (show (6:Int)=0 from hc) (by decide)
  ·rename_i q
   rw [if_neg q]; exact ⟨rfl,rfl⟩
def roff (g:LS):Int:=if g.bg=true then g.off else -1
theorem aiFind {s:List UInt8} {k:Int} {a:Int} (h:AI (rrowsL s) k (rowsL s).length a):findX k (rrowsL s)=if a > 0 then a - 1 else -1:=by
 have e:(rowsL s).length=(rrowsL s).length:=by rw [rows_len]; unfold rrowsL; rw [List.length_map]
 rw [e] at h
 exact h.find
theorem xParse (s:List UInt8) (hs:s.length≤30000) {K:Unit×Bool×Int×Unit→Int×Int×Unit→List V→Bool→Bool→Prop}
  (h:∀ o f,K ((),(lparseL s).1.has,(lparseL s).1.ex,()) ((lparseL s).2.1,(lparseL s).2.2,()) (TLV (lparseL s).1.ls) o f):Xq0w (S s) K:=by
 unfold Xq0w Yq0w
 refine xRows s (by omega) ?_
 have hXl:(rrowsL s).length=(rowsL s).length:=by rw [rows_len]; unfold rrowsL; rw [List.length_map]
 refine lp_ind (fun x=>(rowsL s).length - x.1.2.2.2.2.2.2.1.toNat) (fun x=>∃ (j:Nat) (g:LS),j≤(rowsL s).length∧LI (rowsL s) j g∧AI (rrowsL s) 1 j g.a1∧AI (rrowsL s) 2 j g.a2∧AI (rrowsL s) 3 j g.a3∧goL j g ((rowsL s).drop j)=goL 0 ls0 (rowsL s) ∧
  x=((S s,(),(),(),(),roff g,(j:Int),()),([],false,0,()),(0,0,()),(TLV g.ls,false,0,()),(RXV (rrowsL s),true,false),())) ?_
  ⟨0,ls0,Nat.zero_le _,ls0_LI _,AI.zero _ _,AI.zero _ _,AI.zero _ _,rfl,rfl⟩
 rintro x ⟨j,g,hj,hi,ha1,ha2,ha3,hg,rfl⟩ k hk
 unfold Lq0w_0
 dsimp only
 rw [RXV_len,hXl,Int.toNat_natCast]
 have hlen:=hi.len
 have hsl:(rowsL s).length≤s.length+1:=by rw [rows_len]; exact lines_len s
 by_cases e:j < (rowsL s).length
 ·rw [if_pos (decide_eq_true (by omega)),if_pos (by omega)]
  have hd:(rowsL s).drop j=(rowsL s).getD j lw0 :: (rowsL s).drop (j+1):=by rw [getD_in _ _ _ e]; exact List.drop_eq_getElem_cons e
  rw [hd,goL] at hg
  have ej:j < (linesL s).length:=by rw [← rows_len]; exact e
  have hrr:RR ((rowsL s).getD j lw0) ((rrowsL s).getD j rx0):=by rw [rows_get s j e,rrows_get s j ej]; exact read_RR _
  have hrd:((rowsL s).getD j lw0).ok=true→((rowsL s).getD j lw0).kd=[]→((rowsL s).getD j lw0).ns.length=2∧∀ i,i < 2→0≤((rowsL s).getD j lw0).ns.getD i 0∧((rowsL s).getD j lw0).ns.getD i 0≤9223372036854775807:=by
   rw [rows_get s j e]; exact row_data _
  have hli:=hi.line fun a b=>(hrd a b).2 1 (by omega)
  have w1:w64 ((j:Int)+1)=((j+1:Nat):Int):=by rw [w64_in (by omega) (by omega)]; omega
  rw [w1]
  have bad:∀ c:Int,(lineL g (j+1) ((rowsL s).getD j lw0)).2=c→c≠0→K ((),false,0,()) (((j+1:Nat):Int),c,()) [] true true:=fun c hc hne=>by
   rw [if_pos (by rw [hc]; exact hne)] at hg
   have hp:lparseL s=(tb0,((j+1:Nat):Int),c):=by
    unfold lparseL
    rw [← hg,if_pos (by rw [hc]; exact hne),hc]
    exact congrArg (fun z=>(tb0,z,c)) (show (j:Int)+1=((j+1:Nat):Int) by omega)
   rw [hp] at h
   exact h true true
  have go:(lineL g (j+1) ((rowsL s).getD j lw0)).2=0→AI (rrowsL s) 1 (j+1) (lineL g (j+1) ((rowsL s).getD j lw0)).1.a1→AI (rrowsL s) 2 (j+1) (lineL g (j+1) ((rowsL s).getD j lw0)).1.a2→AI (rrowsL s) 3 (j+1) (lineL g (j+1) ((rowsL s).getD j lw0)).1.a3 →
    ∀ {o:Int} {l:List V} {b:Bool} {z:Int},o=roff (lineL g (j+1) ((rowsL s).getD j lw0)).1→l=TLV (lineL g (j+1) ((rowsL s).getD j lw0)).1.ls→b=false∧z=0→k ((S s,(),(),(),(),o,((j+1:Nat):Int),()),([],false,0,()),(0,0,()),(l,b,z,()),(RXV (rrowsL s),true,false),()):=fun hc a1 a2 a3 _ _ _ _ ho hl hb=>by
   rw [if_neg (by rw [hc]; simp)] at hg
   rw [ho,hl,hb.1,hb.2]
   exact hk _ ⟨j+1,_,e,hli,a1,a2,a3,hg,rfl⟩ (by show (rowsL s).length - Int.toNat ((j+1:Nat):Int) < (rowsL s).length - Int.toNat (j:Int); omega)
  have hex:j < (rrowsL s).length:=by rw [hXl]; exact e
  refine asX0 hex (asX1 hex (asX2 hex (asX3 hex (asX4 hex ?_))))
  cases hok:((rowsL s).getD j lw0).ok
  ·have hxo:((rrowsL s).getD j rx0).ok=false:=by rw [hrr.ok,hok]
   have hb:=bad 2 (by unfold lineL; rw [if_pos hok]) (by decide)
   rw [hxo]
   by_cases c1:((rrowsL s).getD j rx0).k=1
   ·rw [if_pos (by rw [c1]; rfl),if_pos (by rfl)]; exact hb
   rw [if_neg (by rw [beq_iff_eq]; exact c1)]
   by_cases c2:((rrowsL s).getD j rx0).k=2
   ·rw [if_pos (by rw [c2]; rfl),if_pos (by rfl)]; exact hb
   rw [if_neg (by rw [beq_iff_eq]; exact c2),if_pos (by rfl)]; exact hb
  ·have hxo:((rrowsL s).getD j rx0).ok=true:=by rw [hrr.ok,hok]
   rw [hxo]
   by_cases k1:((rrowsL s).getD j rx0).k=1
   ·rw [if_pos (by rw [k1]; rfl),if_neg (by simp)]
    refine xFind _ _ (by rw [hXl]; omega) ?_
    have hkd:((rowsL s).getD j lw0).kd=kStamp:=hrr.k1.1 k1
    have hf:=ha1.cur hex k1
    rw [k1,hf]
    by_cases p:g.a1 > 0
    ·rw [if_pos p,if_pos (by rw [bne_iff_ne]; have:=(ha1.yes p).1; omega)]
     exact bad 2 (by unfold lineL; rw [if_neg (by rw [hok]; simp),if_pos hkd,if_pos p]) (by decide)
    ·rw [if_neg p,if_neg (by rw [bne_iff_ne]; exact fun z=>z rfl),if_pos (by decide)]
     have hl1:lineL g (j+1) ((rowsL s).getD j lw0)=(⟨g.ls,g.off,g.bg,((j+1:Nat):Int),g.a2,g.a3⟩,0):=by unfold lineL; rw [if_neg (by rw [hok]; simp),if_pos hkd,if_neg p]
     exact go (by rw [hl1]) (by rw [hl1]; exact ha1.here p k1) (by rw [hl1]; exact ha2.next (by rw [k1]; decide)) (by rw [hl1]; exact ha3.next (by rw [k1]; decide)) (by rw [hl1]; rfl) (by rw [hl1]) ⟨rfl,rfl⟩
   rw [if_neg (by rw [beq_iff_eq]; exact k1)]
   by_cases k2:((rrowsL s).getD j rx0).k=2
   ·rw [if_pos (by rw [k2]; rfl),if_neg (by simp)]
    refine xFind _ _ (by rw [hXl]; omega) ?_
    have hkd:((rowsL s).getD j lw0).kd=kExp:=hrr.k2.1 k2
    have hf:=ha2.cur hex k2
    rw [k2,hf]
    by_cases p:g.a2 > 0
    ·rw [if_pos p,if_pos (by rw [bne_iff_ne]; have:=(ha2.yes p).1; omega)]
     exact bad 2 (by unfold lineL; rw [if_neg (by rw [hok]; simp),if_neg (by rw [hkd]; decide),if_pos hkd,if_pos p]) (by decide)
    ·rw [if_neg p,if_neg (by rw [bne_iff_ne]; exact fun z=>z rfl),if_pos (by decide)]
     have hl1:lineL g (j+1) ((rowsL s).getD j lw0)=(⟨g.ls,g.off,g.bg,g.a1,((j+1:Nat):Int),g.a3⟩,0):=by unfold lineL; rw [if_neg (by rw [hok]; simp),if_neg (by rw [hkd]; decide),if_pos hkd,if_neg p]
     exact go (by rw [hl1]) (by rw [hl1]; exact ha1.next (by rw [k2]; decide)) (by rw [hl1]; exact ha2.here p k2) (by rw [hl1]; exact ha3.next (by rw [k2]; decide)) (by rw [hl1]; rfl) (by rw [hl1]) ⟨rfl,rfl⟩
   rw [if_neg (by rw [beq_iff_eq]; exact k2),if_neg (by simp)]
   by_cases k3:((rrowsL s).getD j rx0).k=3
   ·rw [if_pos (by rw [k3]; rfl)]
    refine xFind _ _ (by rw [hXl]; omega) ?_
    have hkd:((rowsL s).getD j lw0).kd=kHash:=hrr.k3.1 k3
    have hf:=ha3.cur hex k3
    rw [k3,hf]
    by_cases p:g.a3 > 0
    ·rw [if_pos p,if_pos (by rw [bne_iff_ne]; have:=(ha3.yes p).1; omega)]
     exact bad 2 (by unfold lineL; rw [if_neg (by rw [hok]; simp),if_neg (by rw [hkd]; decide),if_neg (by rw [hkd]; decide),if_pos hkd,if_pos p]) (by decide)
    ·rw [if_neg p,if_neg (by rw [bne_iff_ne]; exact fun z=>z rfl),if_pos (by decide)]
     have hl1:lineL g (j+1) ((rowsL s).getD j lw0)=(⟨g.ls,g.off,g.bg,g.a1,g.a2,((j+1:Nat):Int)⟩,0):=by unfold lineL; rw [if_neg (by rw [hok]; simp),if_neg (by rw [hkd]; decide),if_neg (by rw [hkd]; decide),if_pos hkd,if_neg p]
     exact go (by rw [hl1]) (by rw [hl1]; exact ha1.next (by rw [k3]; decide)) (by rw [hl1]; exact ha2.next (by rw [k3]; decide)) (by rw [hl1]; exact ha3.here p k3) (by rw [hl1]; rfl) (by rw [hl1]) ⟨rfl,rfl⟩
   rw [if_neg (by rw [beq_iff_eq]; exact k3)]
   by_cases k5:((rrowsL s).getD j rx0).k=5
   ·rw [if_neg (by rw [k5]; decide)]
    have hkd:=hrr.k5.1 k5
    obtain ⟨l2,nb⟩:=hrd hok hkd
    have b0:=nb 0 (by omega)
    have b1:=nb 1 (by omega)
    have hl5:lineL g (j+1) ((rowsL s).getD j lw0)=dataL g (((rowsL s).getD j lw0).ns.getD 0 0) (((rowsL s).getD j lw0).ns.getD 1 0):=by
     unfold lineL
     rw [if_neg (by rw [hok]; simp),if_neg (by rw [hkd]; decide),if_neg (by rw [hkd]; decide),if_neg (by rw [hkd]; decide),if_pos hkd]
    rw [hrr.one hok (.inr (.inr k5)),hrr.two hok k5]
    generalize ((rowsL s).getD j lw0).ns.getD 0 0=n0 at *
    generalize ((rowsL s).getD j lw0).ns.getD 1 0=n1 at *
    cases b:g.bg
    ·rw [show roff g=-1 by unfold roff; rw [b]; rfl,if_pos (show decide ((-1:Int) < 0)=true from rfl)]
     refine xPosix n0 b0.2 ?_
     rw [if_neg (show ¬ n0 < 0 by omega)]
     by_cases c1:n0 - 2208988800=63072000
     ·rw [if_neg (by rw [c1]; decide)]
      by_cases c2:n1=10
      ·rw [if_neg (by rw [c2]; decide)]
       have hd5:dataL g n0 n1=(⟨g.ls,n1,true,g.a1,g.a2,g.a3⟩,0):=by unfold dataL; rw [if_pos b,if_neg (by omega)]
       exact go (by rw [hl5,hd5]) (by rw [hl5,hd5]; exact ha1.next k1) (by rw [hl5,hd5]; exact ha2.next k2) (by rw [hl5,hd5]; exact ha3.next k3) (by rw [hl5,hd5]; rfl) (by rw [hl5,hd5]) ⟨rfl,rfl⟩
      ·rw [if_pos (by rw [bne_iff_ne]; exact c2)]
       exact bad 9 (by rw [hl5]; unfold dataL; rw [if_pos b,if_pos (.inr c2)]) (by decide)
     ·rw [if_pos (by rw [bne_iff_ne]; exact c1)]
      exact bad 9 (by rw [hl5]; unfold dataL; rw [if_pos b,if_pos (.inl c1)]) (by decide)
    ·have ho:=hi.off
     rw [show roff g=g.off by unfold roff; rw [b]; rfl,if_neg (dneg (by omega))]
     refine xNext g _ _ _ n0 n1 b b0 b1 ho (by omega) fun w f=>?_
     dsimp only
     obtain ⟨d1,d2,d3⟩:=data_a g n0 n1
     by_cases c:(dataL g n0 n1).2=0
     ·rw [if_neg (by rw [c]; decide)]
      obtain ⟨d5,d6⟩:=data_ok g n0 n1 b c
      exact go (by rw [hl5]; exact c) (by rw [hl5,d1]; exact ha1.next k1) (by rw [hl5,d2]; exact ha2.next k2) (by rw [hl5,d3]; exact ha3.next k3) (by rw [hl5]; unfold roff; rw [d6,if_pos rfl,d5]) (by rw [hl5]) ⟨rfl,rfl⟩
     ·rw [if_pos (by rw [bne_iff_ne]; exact c)]
      exact bad _ (by rw [hl5]) c
   ·rw [if_pos (by rw [bne_iff_ne]; exact k5)]
    have hl0:lineL g (j+1) ((rowsL s).getD j lw0)=(g,0):=by
     unfold lineL
     rw [if_neg (by rw [hok]; simp),if_neg (fun z=>k1 (hrr.k1.2 z)),if_neg (fun z=>k2 (hrr.k2.2 z)),if_neg (fun z=>k3 (hrr.k3.2 z)),if_neg (fun z=>k5 (hrr.k5.2 z))]
    exact go (by rw [hl0]) (by rw [hl0]; exact ha1.next k1) (by rw [hl0]; exact ha2.next k2) (by rw [hl0]; exact ha3.next k3) (by rw [hl0]) (by rw [hl0]) ⟨rfl,rfl⟩
 ·have:j=(rowsL s).length:=by omega
  subst this
  rw [if_neg (dneg (by omega))]
  rw [List.drop_length,goL] at hg
  have hp:lparseL s=endL (linesL s) (rowsL s) g:=by
   unfold lparseL
   rw [← hg,if_neg (by simp)]
  rw [hp] at h
  unfold endL at h
  have ho:=hi.off
  by_cases b:g.bg=false
  ·rw [show roff g=-1 by unfold roff; rw [b]; rfl,if_pos (show decide ((-1:Int) < 0)=true from rfl)]
   rw [if_pos b] at h
   rw [w64_in (n:=(((rowsL s).length:Nat):Int)+1) (by omega) (by omega)]
   exact h true true
  rw [show roff g=g.off by unfold roff; rw [if_pos (by simpa using b)],if_neg (dneg (by omega))]
  rw [if_neg b] at h
  refine xFind _ 2 (by rw [hXl]; omega) ?_
  rw [aiFind ha2]
  by_cases q2:g.a2 > 0
  ·rw [if_pos q2,if_pos (decide_eq_true (by omega))]
   obtain ⟨y1,y2,y3⟩:=hi.e q2
   have hlt2:g.a2.toNat - 1 < (rowsL s).length:=by omega
   have hll2:g.a2.toNat - 1 < (linesL s).length:=by rw [← rows_len]; exact hlt2
   have hr2:RR ((rowsL s).getD (g.a2.toNat - 1) lw0) ((rrowsL s).getD (g.a2.toNat - 1) rx0):=by rw [rows_get s _ hlt2,rrows_get s _ hll2]; exact read_RR _
   obtain ⟨n1,n2⟩:((rowsL s).getD (g.a2.toNat - 1) lw0).ns.length=1∧0≤((rowsL s).getD (g.a2.toNat - 1) lw0).ns.getD 0 0∧((rowsL s).getD (g.a2.toNat - 1) lw0).ns.getD 0 0≤9223372036854775807:=by
    rw [rows_get s _ hlt2] at y2 y3 ⊢
    exact row_exp _ y3 y2
   rw [if_pos (by omega),show (g.a2 - 1).toNat=g.a2.toNat - 1 by omega]
   refine asX3 (by rw [hXl]; exact hlt2) ?_
   rw [hr2.one y3 (.inr (.inl (hr2.k2.2 y2)))]
   generalize ((rowsL s).getD (g.a2.toNat - 1) lw0).ns.getD 0 0=nx at *
   refine xPosix nx n2.2 ?_
   rw [if_neg (show ¬ nx < 0 by omega)]
   refine qRightT ⟨g.ls,true,nx - 2208988800⟩ (by dsimp only; omega) ?_
   cases rt:rightT ⟨g.ls,true,nx - 2208988800⟩
   ·rw [if_pos (by simp),show w64 (g.a2 - 1+1)=g.a2 by rw [w64_in (by omega) (by omega)]; omega]
    rw [if_pos ⟨q2,rt⟩] at h
    exact h true true
   rw [if_neg (by simp)]
   rw [if_neg (fun z=>by rw [rt] at z; cases z.2)] at h
   simp only [if_pos q2] at h
   refine xFind _ _ (by rw [hXl]; omega) ?_
   rw [aiFind ha3]
   by_cases q3:g.a3 > 0
   ·rw [if_pos q3,if_pos (decide_eq_true (by omega))]
    obtain ⟨z1,z2⟩:=hi.h q3
    have hlt:g.a3.toNat - 1 < (rowsL s).length:=by omega
    rw [if_pos (by omega),show (g.a3 - 1).toNat=g.a3.toNat - 1 by omega]
    refine asX2 (by rw [hXl]; exact hlt) ?_
    have hx2:=row_hash ((linesL s).getD (g.a3.toNat - 1) []) (by rw [← rows_get s _ hlt]; exact z2)
    have hll:g.a3.toNat - 1 < (linesL s).length:=by rw [← rows_len]; exact hlt
    have hxl:((linesL s).getD (g.a3.toNat - 1) []).length≤s.length:=by rw [getD_in _ _ _ hll]; exact lines_mem_len s _ (List.getElem_mem _)
    have hwx:((rrowsL s).getD (g.a3.toNat - 1) rx0).ws=[((linesL s).getD (g.a3.toNat - 1) []).drop 2]:=by
     rw [rrows_get s _ hll]; exact rread_hash _ hx2
    rw [hwx,WV_len,if_pos (by rw [List.length_singleton]; omega)]
    refine asWd (by rw [List.length_singleton]; omega) ?_
    refine xHash _ (by show (((linesL s).getD (g.a3.toNat - 1) []).drop 2).length≤_; rw [List.length_drop]; omega) (xHash10 s hs (rWords _ ?_))
    simp only [lt]
    rw [same5e]
    show (if (!same5L (hashW (((linesL s).getD (g.a3.toNat - 1) []).drop 2)) (wordsOf (digest (hashedL (rowsL s)))))=true then _ else _)
    cases sm:same5L (hashW (((linesL s).getD (g.a3.toNat - 1) []).drop 2)) (wordsOf (digest (hashedL (rowsL s))))
    ·rw [if_pos (by simp),show w64 (g.a3 - 1+1)=g.a3 by rw [w64_in (by omega) (by omega)]; omega]
     rw [if_pos ⟨q3,sm⟩] at h
     exact h true true
    ·rw [if_neg (by simp)]
     rw [if_neg (fun z=>by rw [sm] at z; cases z.2)] at h
     exact h _ _
   ·rw [if_neg q3,if_neg (by decide)]
    rw [if_neg (fun z=>q3 z.1)] at h
    exact h _ _
  ·rw [if_neg q2,if_neg (by decide)]
   rw [if_neg (fun z=>q2 z.1)] at h
   simp only [if_neg q2] at h
   refine xFind _ _ (by rw [hXl]; omega) ?_
   rw [aiFind ha3]
   by_cases q3:g.a3 > 0
   ·rw [if_pos q3,if_pos (decide_eq_true (by omega))]
    obtain ⟨z1,z2⟩:=hi.h q3
    have hlt:g.a3.toNat - 1 < (rowsL s).length:=by omega
    rw [if_pos (by omega),show (g.a3 - 1).toNat=g.a3.toNat - 1 by omega]
    refine asX2 (by rw [hXl]; exact hlt) ?_
    have hx2:=row_hash ((linesL s).getD (g.a3.toNat - 1) []) (by rw [← rows_get s _ hlt]; exact z2)
    have hll:g.a3.toNat - 1 < (linesL s).length:=by rw [← rows_len]; exact hlt
    have hxl:((linesL s).getD (g.a3.toNat - 1) []).length≤s.length:=by rw [getD_in _ _ _ hll]; exact lines_mem_len s _ (List.getElem_mem _)
    have hwx:((rrowsL s).getD (g.a3.toNat - 1) rx0).ws=[((linesL s).getD (g.a3.toNat - 1) []).drop 2]:=by
     rw [rrows_get s _ hll]; exact rread_hash _ hx2
    rw [hwx,WV_len,if_pos (by rw [List.length_singleton]; omega)]
    refine asWd (by rw [List.length_singleton]; omega) ?_
    refine xHash _ (by show (((linesL s).getD (g.a3.toNat - 1) []).drop 2).length≤_; rw [List.length_drop]; omega) (xHash10 s hs (rWords _ ?_))
    simp only [lt]
    rw [same5e]
    show (if (!same5L (hashW (((linesL s).getD (g.a3.toNat - 1) []).drop 2)) (wordsOf (digest (hashedL (rowsL s)))))=true then _ else _)
    cases sm:same5L (hashW (((linesL s).getD (g.a3.toNat - 1) []).drop 2)) (wordsOf (digest (hashedL (rowsL s))))
    ·rw [if_pos (by simp),show w64 (g.a3 - 1+1)=g.a3 by rw [w64_in (by omega) (by omega)]; omega]
     rw [if_pos ⟨q3,sm⟩] at h
     exact h true true
    ·rw [if_neg (by simp)]
     rw [if_neg (fun z=>by rw [sm] at z; cases z.2)] at h
     exact h _ _
   ·rw [if_neg q3,if_neg (by decide)]
    rw [if_neg (fun z=>q3 z.1)] at h
    exact h _ _
end Go.Proofs.YtdjldmolhkkipaaGreatDoor
end
section
set_option linter.unusedVariables false
set_option linter.unusedSimpArgs false
namespace Go.Proofs.YtdjldmolhkkipaaGreatDoor
open Go Go.Proofs.YtdjldmolhkkipaaGreatDoor.Eng Go.Proofs.YtdjldmolhkkipaaGreatDoor.Pl
set_option maxRecDepth 100000
set_option maxHeartbeats 2000000
theorem xpack1 (c:UInt8):Eng.packB [V.c (.int .u8 (c.toNat:Int))]=S [c]:=B8_pack [c]
theorem xdig8 (n:Nat):wu8 (w64 (48+Int.tmod (n:Int) 10))=((UInt8.ofNat (48+n % 10)).toNat:Int):=by
 rw [Int.tmod_eq_emod_of_nonneg (by omega),w64_in (by omega) (by omega),wu8_in (by omega) (by omega)]
 simp; omega
theorem xDecN:∀ (k n:Nat),n < 10 ^ (k+1)→n≤9223372036854775807→∀ {K:ByteArray→Prop},K (S (digsN (k+1) n))→Xq0a (k+1) (n:Int) K
 | k,n,hn,hm,K,h=>by
  show Yq0b (Xq0a k) (n:Int) K
  unfold Yq0b
  rw [digsN] at h
  simp only [lt,xdig8,xpack1]
  by_cases e:n < 10
  ·rw [if_pos e] at h
   rw [if_pos (decide_eq_true (by omega)),show n % 10=n by omega]; exact h
  ·rw [if_neg e] at h
   rw [if_neg (dneg (by omega))]
   have hd:w64 (Int.tdiv (n:Int) 10)=((n / 10:Nat):Int):=by rw [Int.tdiv_eq_ediv_of_nonneg (by omega),w64_in (by omega) (by omega)]; omega
   rw [hd]
   cases k with
   | zero=>omega
   | succ k =>
    refine xDecN k (n / 10) (by rw [Nat.pow_succ] at hn; omega) (by omega) ?_
    rw [S_size,S_size,if_neg (by
     have:(digsN (k+1) (n / 10)).length≤100:=by
      rw [digsN_eq k _ (by rw [Nat.pow_succ] at hn; omega)]
      have h1:digsN 20 (n / 10)=Lib.decDigits (n / 10):=digsN_eq 19 (n / 10) (by omega)
      rw [← h1]
      have:=digsN_len 20 (n / 10); omega
     simp only [List.length_singleton]; omega),S_append]
    exact h
theorem xDec (n:Int) (h0:0≤n) (h1:n≤9223372036854775807) {K} (h:K (S (itoaK n))):Xq0b n K:=by
 refine ⟨20,?_⟩
 have:=xDecN 19 n.toNat (by omega) (by omega) (K:=K) (by unfold itoaK at h; rw [if_neg (by omega)] at h; exact h)
 rwa [show ((n.toNat:Nat):Int)=n by omega] at this
theorem xPair (p o:Int) (hp:0≤p+2208988800∧p≤9223372034645786000) (ho:0≤o∧o≤1000000000) {K:ByteArray→Prop} (h:K (S (lpairL p o++[10]))):Xq16 p o K:=by
 unfold Xq16 Yq16
 have i1:=itoaK_len (p+2208988800)
 have i2:=itoaK_len o
 refine xNtp p (by omega) hp.2 (xDec _ (by omega) (by omega) ?_)
 rw [S_size,if_neg (by omega)]
 refine xDec _ (by omega) (by omega) ?_
 rw [S_cat _ [9],S_size,S_size,if_neg (by rw [List.length_append,List.length_singleton]; omega)]
 simp only [lt]
 rw [S_append,S_size,if_neg (by rw [List.length_append,List.length_append,List.length_singleton]; omega),S_cat _ [10]]
 have:itoaK (p+2208988800)++[9]++itoaK o++[10]=lpairL p o++[10]:=by unfold lpairL; simp
 rw [this]; exact h
theorem nib_at (w:Nat→W32) (i m:Nat) (hi:i < 5) (hm:m < 8):(partW w i).take (m+1)=(partW w i).take m++[hexC ((w i).toNat / 2 ^ (28 - 4 * m) % 16)]:=by
 have e0:(dW w (4 * i)).toNat=(w i).toNat / 16777216 % 256:=dW_val w i 0 (by omega)
 have e1:(dW w (4 * i+1)).toNat=(w i).toNat / 65536 % 256:=dW_val w i 1 (by omega)
 have e2:(dW w (4 * i+2)).toNat=(w i).toNat / 256 % 256:=dW_val w i 2 (by omega)
 have e3:(dW w (4 * i+3)).toNat=(w i).toNat / 1 % 256:=dW_val w i 3 (by omega)
 have hw:=(w i).isLt
 rw [part_eq w i hi,e0,e1,e2,e3]
 generalize (w i).toNat=x at *
 rcases (show m=0∨m=1∨m=2∨m=3∨m=4∨m=5∨m=6∨m=7 by omega) with rfl | rfl | rfl | rfl | rfl | rfl | rfl | rfl
 ·simp only [List.take,List.nil_append]; rw [show x / 16777216 % 256 / 16=x / 2 ^ (28 - 4 * 0) % 16 by omega]
 ·simp only [List.take,List.cons_append,List.nil_append]; rw [show x / 2 ^ (28 - 4 * 1) % 16=x / 16777216 % 256 % 16 by omega]
 ·simp only [List.take,List.cons_append,List.nil_append]; rw [show x / 2 ^ (28 - 4 * 2) % 16=x / 65536 % 256 / 16 by omega]
 ·simp only [List.take,List.cons_append,List.nil_append]; rw [show x / 2 ^ (28 - 4 * 3) % 16=x / 65536 % 256 % 16 by omega]
 ·simp only [List.take,List.cons_append,List.nil_append]; rw [show x / 2 ^ (28 - 4 * 4) % 16=x / 256 % 256 / 16 by omega]
 ·simp only [List.take,List.cons_append,List.nil_append]; rw [show x / 2 ^ (28 - 4 * 5) % 16=x / 256 % 256 % 16 by omega]
 ·simp only [List.take,List.cons_append,List.nil_append]; rw [show x / 2 ^ (28 - 4 * 6) % 16=x / 1 % 256 / 16 by omega]
 ·simp only [List.take,List.cons_append,List.nil_append]; rw [show x / 2 ^ (28 - 4 * 7) % 16=x / 1 % 256 % 16 by omega]
theorem and15 (x:W32) (k:Nat):wu32 ((BitVec.toNat (BitVec.ofInt 32 (Int.fdiv (wi x) (2 ^ k)) &&& BitVec.ofInt 32 15):Nat):Int)=((x.toNat / 2 ^ k % 16:Nat):Int):=by
 rw [wi_shr]
 have h15:BitVec.ofInt 32 15=BitVec.ofInt 32 (wi (15#32)):=rfl
 rw [h15,wi_and]
 unfold wi
 rw [BitVec.toNat_and,BitVec.toNat_ushiftRight,Nat.shiftRight_eq_div_pow]
 have:(15#32).toNat=2 ^ 4 - 1:=rfl
 rw [this,Nat.and_two_pow_sub_one_eq_mod]
def accT (w:Nat→W32):Nat→List UInt8
 | 0=>[]
 | n+1=>accT w n++((if n > 0 then [32] else [])++partW w n)
theorem acc_len (w:Nat→W32):∀ n,n≤5→(accT w n).length≤9 * n
 | 0,_=>Nat.zero_le _
 | n+1,h=>by
  have:=acc_len w n (by omega)
  have:=partW_len w n (by omega)
  rw [accT,List.length_append,List.length_append]
  split
  ·rw [List.length_singleton]; omega
  ·rw [List.length_nil]; omega
theorem acc_end (w:Nat→W32):accT w 5=ntextL w:=by rw [ntext_eq]; simp [accT]
theorem xNtext (w:Nat→W32) {K:ByteArray→Prop} (h:K (S (ntextL w))):Xq1f (t5 w) K:=by
 unfold Xq1f Yq1f
 refine lp_ind (fun x=>5 - x.1.2.2.2.2.1.toNat) (fun x=>∃ i:Nat,i≤5∧x=(((),ByteArray.mk #[],S digs,S (accT w i),(i:Int),()),t5 w,())) ?_ ⟨0,by omega,rfl⟩
 rintro x ⟨i,hi,rfl⟩ k hk
 unfold Lq1f_0
 dsimp only
 have hl:=acc_len w i hi
 by_cases e:i < 5
 ·rw [if_pos (decide_eq_true (by omega))]
  have inner:∀ A:List UInt8,A.length≤50→accT w (i+1)=A++partW w i→lp (Lq1f_1 K k) (((),ByteArray.mk #[],S digs,S A,(i:Int),28,()),t5 w,()):=fun A hA hacc=>by
   refine lp_ind (fun x=>(x.1.2.2.2.2.2.1+4).toNat) (fun x=>∃ m:Nat,m≤8∧x=(((),ByteArray.mk #[],S digs,S (A++(partW w i).take m),(i:Int),28 - 4 * (m:Int),()),t5 w,())) ?_ ⟨0,by omega,by simp⟩
   rintro x ⟨m,hm,rfl⟩ k3 hk3
   unfold Lq1f_1
   dsimp only
   by_cases em:m < 8
   ·rw [if_pos (decide_eq_true (by omega)),if_pos (by omega)]
    simp only [Int.toNat_natCast,Nat.mul_one,Nat.zero_add]
    refine as5w w e ?_
    rw [if_neg (by omega),show Min.min (28 - 4 * (m:Int)).toNat 32=28 - 4 * m by omega,and15]
    have hd:(w i).toNat / 2 ^ (28 - 4 * m) % 16 < 16:=Nat.mod_lt _ (by omega)
    have nib:=nib_at w i m e em
    generalize (w i).toNat / 2 ^ (28 - 4 * m) % 16=d at *
    have w1:wu32 ((d:Int)+1)=((d+1:Nat):Int):=by rw [wu32_in (by omega) (by omega)]; omega
    rw [w1]
    simp only [lt]
    have hsz:ByteArray.size (S digs)=16:=rfl
    rw [hsz,if_pos (by omega),if_pos (by omega),Int.toNat_natCast,Int.toNat_natCast]
    have hex:ByteArray.extract (S digs) d (d+1)=S [hexC d]:=dig_ex d hd
    rw [hex,S_size,S_size,if_neg (by rw [List.length_append,List.length_take,List.length_singleton]; omega),S_append,List.append_assoc,← nib]
    have w2:w64 (28 - 4 * (m:Int) - 4)=28 - 4 * ((m+1:Nat):Int):=by rw [w64_in (by omega) (by omega)]; omega
    rw [w2]
    exact hk3 _ ⟨m+1,em,rfl⟩ (by dsimp only; omega)
   ·have:m=8:=by omega
    subst this
    rw [if_neg (dneg (by omega))]
    have w2:w64 ((i:Int)+1)=((i+1:Nat):Int):=by rw [w64_in (by omega) (by omega)]; omega
    rw [w2,List.take_of_length_le (by rw [partW_len w i e]; omega),← hacc]
    exact hk _ ⟨i+1,e,rfl⟩ (by show 5 - Int.toNat ((i+1:Nat):Int) < 5 - Int.toNat (i:Int); omega)
  by_cases p:i > 0
  ·rw [if_pos (decide_eq_true (by omega)),S_size,if_neg (by omega),S_cat _ [32]]
   exact inner _ (by rw [List.length_append,List.length_singleton]; omega) (by rw [accT,if_pos p]; simp)
  ·rw [if_neg (dneg (by omega))]
   exact inner _ (by omega) (by rw [accT,if_neg p]; simp)
 ·have:i=5:=by omega
  subst this
  rw [if_neg (dneg (by omega)),acc_end]
  exact h
end Go.Proofs.YtdjldmolhkkipaaGreatDoor
end
section
set_option linter.unusedVariables false
set_option linter.unusedSimpArgs false
namespace Go.Proofs.YtdjldmolhkkipaaGreatDoor
open Go Go.Proofs.YtdjldmolhkkipaaGreatDoor.Eng Go.Proofs.YtdjldmolhkkipaaGreatDoor.Pl
set_option maxRecDepth 100000
set_option maxHeartbeats 2000000
theorem xTextLoop (t:Tb) (wh:Int) (hr:rightT t=true) (h0:0≤wh) (hl:t.ls.length≤300) {K:ByteArray→Bool→Prop} (h:K (S (ltextL t wh).1) (ltextL t wh).2) :
  lp (Lq1b_0 Xq16 Xq0z Xq0o Xq1f K) (((),ByteArray.mk #[],false,S (textOf (heads t wh)),10,0,()),(TLV t.ls,t.has,t.ex,()),()):=by
 have hall:=checkG_all _ _ _ (right_0 hr).1
 have hb:=heads_len t wh
 obtain ⟨hb1,hb2⟩:=ltextB_len t wh hl
 have no:offOk 10 t.ls=false→K (ByteArray.mk #[]) false:=fun q=>by
  unfold ltextL at h
  rw [if_neg (fun z=>by rw [q] at z; cases z.2.2)] at h
  exact h
 refine lp_ind (fun x=>t.ls.length - x.1.2.2.2.2.2.1.toNat) (fun x=>∃ (j:Nat) (o:Int) (B:List UInt8),j≤t.ls.length∧0≤o∧o≤10+j∧B.length≤200+44 * j∧offOk 10 t.ls=offOk o (t.ls.drop j) ∧
  B++textOf (offsL o (t.ls.drop j))=textOf (Pl.ahead t wh)∧x=(((),ByteArray.mk #[],false,S B,o,(j:Int),()),(TLV t.ls,t.has,t.ex,()),())) ?_
  ⟨0,10,_,Nat.zero_le _,by omega,by omega,by omega,rfl,(ahead_eq t wh).symm,rfl⟩
 rintro x ⟨j,o,B,hj,o0,o1,hB,hk1,hk2,rfl⟩ k hk
 unfold Lq1b_0
 dsimp only
 rw [TLV_len,Int.toNat_natCast]
 by_cases e:j < t.ls.length
 ·rw [if_pos (decide_eq_true (by omega)),if_pos (by omega)]
  refine asL2 e ?_
  rw [if_pos (by omega)]
  refine asL3 e ?_
  obtain ⟨d1,d2,d3⟩:=hall t.ls[j] (List.getElem_mem e)
  have hd:t.ls.drop j=t.ls[j] :: t.ls.drop (j+1):=List.drop_eq_getElem_cons e
  rw [hd,offOk] at hk1
  rw [hd,offsL,textOf_cons] at hk2
  have ws:w64 (o+(t.ls[j]).2.1)=o+(t.ls[j]).2.1:=w64_in (by omega) (by omega)
  rw [ws]
  cases rl:(t.ls[j]).2.2
  ·rw [if_neg (by simp)]
   by_cases ng:o+(t.ls[j]).2.1 < 0
   ·rw [if_pos (decide_eq_true ng)]
    exact no (by rw [hk1,decide_eq_false (by omega)]; simp)
   ·rw [if_neg (dneg ng),if_pos (by omega)]
    rw [rl,decide_eq_true (show 0≤o+(t.ls[j]).2.1 by omega)] at hk1
    refine asL1 e ?_
    simp only [lt]
    rw [w64_in (n:=(t.ls[j]).1+1) (by omega) (by omega),w64_in (n:=86400 * ((t.ls[j]).1+1)) (by omega) (by omega),show 86400 * ((t.ls[j]).1+1)=((t.ls[j]).1+1) * 86400 by omega]
    refine xPair _ _ (by omega) (by omega) ?_
    have hp:=lpair_len (((t.ls[j]).1+1) * 86400) (o+(t.ls[j]).2.1)
    rw [S_size,S_size,if_neg (by rw [List.length_append,List.length_singleton]; omega),S_append]
    have w1:w64 ((j:Int)+1)=((j+1:Nat):Int):=by rw [w64_in (by omega) (by omega)]; omega
    rw [w1]
    refine hk _ ⟨j+1,o+(t.ls[j]).2.1,_,e,by omega,by omega,by rw [List.length_append,List.length_append,List.length_singleton]; omega,by simpa using hk1,by rw [List.append_assoc]; exact hk2,rfl⟩ (by show t.ls.length - Int.toNat ((j+1:Nat):Int) < t.ls.length - Int.toNat (j:Int); omega)
  ·rw [if_pos rfl]
   exact no (by rw [hk1,rl]; rfl)
 ·have:j=t.ls.length:=by omega
  subst this
  rw [if_neg (dneg (by omega))]
  rw [List.drop_length] at hk1 hk2
  rw [offOk] at hk1
  rw [offsL,show textOf []=[] from rfl,List.append_nil] at hk2
  unfold ltextL at h
  rw [if_pos ⟨hr,h0,hk1⟩] at h
  subst hk2
  have hn:=ntext_len (wordsOf (hashL (textOf (Pl.ahead t wh))))
  rw [S_size,if_neg (by omega)]
  simp only [lt]
  rw [S_cat _ [35,104,9]]
  refine xHash10 _ (by omega) (rWords _ (xNtext _ ?_))
  rw [S_size,S_size,if_neg (by simp only [List.length_append,List.length_cons,List.length_nil]; omega),S_append,S_size,if_neg (by simp only [List.length_append,List.length_cons,List.length_nil]; omega),S_cat _ [10]]
  have:textOf (Pl.ahead t wh)++[35,104,9]++ntextL (wordsOf (hashL (textOf (Pl.ahead t wh))))++[10]=ltextB t wh:=by unfold ltextB; simp
  rw [this]; exact h
theorem xText (t:Tb) (wh:Int) (hw:wh≤9223372036854775807) (hl:t.ls.length≤300) {K:ByteArray→Bool→Prop} (h:K (S (ltextL t wh).1) (ltextL t wh).2):Xq1b (TLV t.ls,t.has,t.ex,()) wh K:=by
 unfold Xq1b Yq1b
 refine qRightT t (by omega) ?_
 cases rt:rightT t
 ·rw [if_pos (by simp)]
  unfold ltextL at h
  rw [if_neg (fun z=>by rw [rt] at z; cases z.1)] at h
  exact h
 rw [if_neg (by simp)]
 by_cases w0:wh < 0
 ·rw [if_pos (decide_eq_true w0)]
  unfold ltextL at h
  rw [if_neg (fun z=>by omega)] at h
  exact h
 rw [if_neg (dneg w0)]
 have hx:=right_ex rt
 have i1:=itoaK_len wh
 have i2:=itoaK_len (t.ex+2208988800)
 have i3:=lpair_len 63072000 10
 refine xDec _ (by omega) (by omega) ?_
 rw [S_size,if_neg (by omega)]
 simp only [lt]
 have c1:ByteArray.mk #[(35:UInt8),(36:UInt8),(9:UInt8)]++S (itoaK wh)=S ([35,36,9]++itoaK wh):=S_append [35,36,9] _
 rw [c1,S_size,if_neg (by simp only [List.length_append,List.length_cons,List.length_nil]; omega),S_cat _ [10]]
 have loop:=xTextLoop t wh rt (by omega) hl h
 unfold heads at loop
 cases hh:t.has
 ·rw [if_neg (by simp)]
  rw [hh] at loop
  refine xPair _ _ (by omega) (by omega) ?_
  rw [S_size,S_size,if_neg (by simp only [List.length_append,List.length_cons,List.length_nil]; omega),S_append]
  have e:textOf ((kStamp++9 :: itoaK wh) :: ((if false=true then [kExp++9 :: itoaK (t.ex+2208988800)] else [])++[lpairL 63072000 10]))=[35,36,9]++itoaK wh++[10]++(lpairL 63072000 10++[10]):=by simp [textOf]
  rw [e] at loop
  exact loop
 ·rw [if_pos rfl]
  rw [hh] at loop
  have:=hx.2 hh
  refine xNtp t.ex (by omega) (by omega) ?_
  rw [S_size,if_neg (by simp only [List.length_append,List.length_cons,List.length_nil]; omega),S_cat _ [35,64,9]]
  refine xDec _ (by omega) (by omega) ?_
  rw [S_size,S_size,if_neg (by simp only [List.length_append,List.length_cons,List.length_nil]; omega),S_append,S_size,if_neg (by simp only [List.length_append,List.length_cons,List.length_nil]; omega),S_cat _ [10]]
  refine xPair _ _ (by omega) (by omega) ?_
  rw [S_size,S_size,if_neg (by simp only [List.length_append,List.length_cons,List.length_nil]; omega),S_append]
  have e:textOf ((kStamp++9 :: itoaK wh) :: ((if true=true then [kExp++9 :: itoaK (t.ex+2208988800)] else [])++[lpairL 63072000 10]))=[35,36,9]++itoaK wh++[10]++[35,64,9]++itoaK (t.ex+2208988800)++[10]++(lpairL 63072000 10++[10]):=by simp [textOf]
  rw [e] at loop
  exact loop
theorem xdig_same (d:Nat→UInt8):(bi (d 0) == bi (d 0) && (bi (d 1) == bi (d 1) && (bi (d 2) == bi (d 2) && (bi (d 3) == bi (d 3) && (bi (d 4) == bi (d 4) && (bi (d 5) == bi (d 5) && (bi (d 6) == bi (d 6) && (bi (d 7) == bi (d 7) && (bi (d 8) == bi (d 8) && (bi (d 9) == bi (d 9) && (bi (d 10) == bi (d 10) && (bi (d 11) == bi (d 11) && (bi (d 12) == bi (d 12) && (bi (d 13) == bi (d 13) && (bi (d 14) == bi (d 14) && (bi (d 15) == bi (d 15) && (bi (d 16) == bi (d 16) && (bi (d 17) == bi (d 17) && (bi (d 18) == bi (d 18) && (bi (d 19) == bi (d 19) && true))))))))))))))))))))=true:=by
 simp only [beq_self_eq_true,Bool.and_self,Bool.and_true]
theorem lListTells (s:List UInt8) (t:Tb) (wh:Int) (hw:wh≤9223372036854775807) {K:Bool→Prop} (h:K true):Xq09 (S s) (TLV t.ls,t.has,t.ex,()) wh K:=by
 rw [Xq09,Yq09]
 refine eSmall ?_
 unfold Xq1m Yq1m
 dsimp only
 rw [S_size,TLV_len]
 by_cases h1:((s.length:Nat):Int) > 3000
 ·rw [if_pos (decide_eq_true h1)]; exact h
 rw [if_neg (dneg h1)]
 by_cases h2:((t.ls.length:Nat):Int)≤300
 ·rw [if_neg (by simp; omega)]
  refine eParse s (by omega) fun o1 f1=>xParse s (by omega) fun o2 f2=>eText t wh hw (by omega) (xText t wh hw (by omega) ?_)
  have hlg:(lparseL s).1.ls.length≤1000000:=by
   rcases lparse_good s with ⟨_,_,p3,_⟩ | ⟨p1,_⟩
   ·have:=leng_check p3; omega
   ·rw [p1]; exact Nat.zero_le _
  rw [if_pos rfl]
  refine eSameAt (lparseL s).1 (lparseL s).1 true (decide_eq_true rfl) (Nat.ble_eq_true_of_le hlg) ?_
  have e1:((lparseL s).2.1 == (lparseL s).2.1 && ((lparseL s).2.2 == (lparseL s).2.2 && true))=true:=by simp
  rw [if_pos rfl,if_pos e1,kS_eq,if_pos (by simp),if_pos (by simp)]
  refine eHashS s (by omega) (xHash10 s (by omega) ?_)
  show K _
  rw [xdig_same]; exact h
 ·rw [if_pos (by simp; omega)]; exact h
end Go.Proofs.YtdjldmolhkkipaaGreatDoor
end
section
set_option linter.unusedVariables false
set_option linter.unusedSimpArgs false
namespace Go.Proofs.YtdjldmolhkkipaaGreatDoor
open Go Go.Proofs.YtdjldmolhkkipaaGreatDoor.Eng Go.Proofs.YtdjldmolhkkipaaGreatDoor.Pl
abbrev akT:AK:=(.st (.cons (.sl (.st (.cons (.int .i64) (.cons (.int .i64) (.cons .bool .nil))))) (.cons .bool (.cons (.int .i64) .nil))))
theorem wfI {n:Int} (h:(Lit.int .i64 n).wf=true):-9223372036854775808≤n∧n≤9223372036854775807:=by
 simp [Lit.wf,IntKind.min,IntKind.max,IntKind.bits,IntKind.signed] at h
 omega
theorem table_of (ls:List (Int×Int×Bool×Unit)) (has:Bool) (ex:Int) (h1:ls.length≤9223372036854775807) (h3:(Lit.int .i64 ex).wf=true) :
  ∃ t:Tb,((ls.map fun x=>V.agg [.c (.int .i64 x.1),.c (.int .i64 x.2.1),.c (.bool x.2.2.1)],has,ex,()):List V×Bool×Int×Unit)=(TLV t.ls,t.has,t.ex,())∧(-9223372036854775808≤t.ex∧t.ex≤9223372036854775807)∧t.ls.length≤9223372036854775807:=by
 refine ⟨⟨ls.map fun x=>(x.1,x.2.1,x.2.2.1),has,ex⟩,?_,wfI h3,by simpa using h1⟩
 unfold TLV
 rw [List.map_map]; rfl
theorem table_in (a:akT.T) (h:akT.good a):∃ t:Tb,(akT.DV a:List V×Bool×Int×Unit)=(TLV t.ls,t.has,t.ex,())∧(-9223372036854775808≤t.ex∧t.ex≤9223372036854775807)∧t.ls.length≤9223372036854775807:=by
 obtain ⟨ls,has,ex,u⟩:=a
 obtain ⟨h1,h2,h3,h4⟩:=h
 exact table_of ls has ex h1.1 h3
end Go.Proofs.YtdjldmolhkkipaaGreatDoor
end
section
set_option linter.unusedVariables false
set_option linter.unusedSimpArgs false
namespace Go.Proofs.YtdjldmolhkkipaaGreatDoor
open Go Go.Proofs.YtdjldmolhkkipaaGreatDoor.Eng Go.Proofs.YtdjldmolhkkipaaGreatDoor.Pl
theorem pureListTells:PureListTells:=by
 intro a0 h0 a1 h1 a2 h2
 obtain ⟨t,e,_⟩:=table_in a1 h1
 rw [show (akListTells1.DV a1:List V×Bool×Int×Unit)=(TLV t.ls,t.has,t.ex,()) from e]
 show Xq09 (a0:ByteArray) (TLV t.ls,t.has,t.ex,()) (a2:Int) (fun b=>b=true)
 rw [of_S a0]
 exact lListTells _ t a2 (wfI h2).2 rfl
end Go.Proofs.YtdjldmolhkkipaaGreatDoor
end
