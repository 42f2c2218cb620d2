/- What the functions come to in plain data, with proofs, and what that answers. -/
import Derived.Test.YtbnpclndiichcaaGreatDoorJLocalTells2
section
set_option linter.unusedVariables false
set_option linter.unusedSimpArgs false
namespace Go.Proofs.YtbnpclndiichcaaGreatDoor
open Go Go.Proofs.YtbnpclndiichcaaGreatDoor.Eng Go.Proofs.YtbnpclndiichcaaGreatDoor.Pl
set_option maxRecDepth 100000
set_option maxHeartbeats 4000000
def knownZ (z:Zn):Bool:=zoneRight z && knownR z.lp
theorem sLKnown (z:Zn) (hz:ZI z) {K:Bool→Prop} (h:K (knownZ z)):Xq3b (tupZ z) K:=by
 unfold Xq3b Yq3b
 unfold knownZ at h
 refine sRight z hz ?_
 cases hr:zoneRight z
 ·rw [if_neg (by simp)]
  rw [hr] at h; exact h
 ·rw [if_pos rfl]
  rw [hr,Bool.true_and] at h
  have hl:=hz.lp
  exact sScKnown z.lp hz.ri (by omega) h
theorem off_of {z:Zn} (hr:zoneRight z=true) (a:Int):-89999≤(lookZ z a).1∧(lookZ z a).1≤93599:=right_off hr a
def civQ (z:Zn) (t:Int):Int:=(fromR z.lp t).1+(lookZ z (t+63072000)).1
def civC (z:Zn) (t:Int):Cv:=⟨civQ z t / 86400,civQ z t % 86400 / 3600,civQ z t % 86400 / 60 % 60,civQ z t % 86400 % 60+(if (utcR z.lp t).2.1=86400 then 1 else 0),(lookZ z (t+63072000)).1,(lookZ z (t+63072000)).2.1,(lookZ z (t+63072000)).2.2⟩
def civR (z:Zn) (t:Int):Cv×Int :=
 if knownZ z=false then (cv0,1) else if (utcR z.lp t).2.2≠0 then (cv0,(utcR z.lp t).2.2) else
 if -719162≤civQ z t / 86400∧civQ z t / 86400≤2932896 then (civC z t,0) else (cv0,9)
theorem knownZ_iff {z:Zn} (h:knownZ z=true):zoneRight z=true∧knownR z.lp=true:=by
 unfold knownZ at h; simpa using h
theorem from_val {l:List Rec} (hi:recI l) {t:Int} (h:(utcR l t).2.2=0):fromR l t=(ofP (utcR l t).1 (utcR l t).2.1,0)∧730 * 86400≤ofP (utcR l t).1 (utcR l t).2.1∧ofP (utcR l t).1 (utcR l t).2.1≤253402300799∧0≤t∧t≤300000000000:=by
 obtain ⟨u1,u2,u3,u4,u5,tu⟩:=utc_bd hi h
 obtain ⟨_,h0,_⟩:=utcR_ok h
 have hb:strt (tabT l).1.ls (utcR l t).1=(utcR l t).1 * 86400+sumT (tabT l).1.ls (cntD (tabT l).1.ls (utcR l t).1):=rfl
 have:=tu.sum (cntD (tabT l).1.ls (utcR l t).1)
 have:=stepD_bd tu (utcR l t).1
 refine ⟨by unfold fromR; rw [if_pos h],?_,?_,h0,by omega⟩
 ·unfold ofP; omega
 ·unfold ofP; omega
theorem sCivil (z:Zn) (hz:ZI z) (t:Int) (ht:i64r t) {K:_→Int→Prop} (h:K (tupC (civR z t).1) (civR z t).2):Xq3d (tupZ z) t K:=by
 unfold Xq3d Yq3d
 refine sLKnown z hz ?_
 unfold civR at h
 cases hk:knownZ z
 ·rw [hk,if_pos rfl] at h
  rw [if_pos (by rfl)]; exact h
 rw [hk,if_neg (by simp)] at h
 rw [if_neg (by simp)]
 obtain ⟨hr,hkr⟩:=knownZ_iff hk
 have hl:=hz.lp
 show Xq4i (RV z.lp) t _
 refine sUtc z.lp hz.ri (by omega) t ht ?_
 by_cases hu:(utcR z.lp t).2.2≠0
 ·rw [if_pos hu] at h
  rw [if_pos (by simpa using hu)]; exact h
 rw [if_neg hu] at h
 rw [if_neg (by simpa using hu)]
 have hu:(utcR z.lp t).2.2=0:=by omega
 obtain ⟨f1,f2,f3,f4,f5⟩:=from_val hz.ri hu
 show Xq3t (RV z.lp) t _
 refine sFrom z.lp hz.ri (by omega) t ht ?_
 rw [w64_in (n:=t+63072000) (by omega) (by omega)]
 refine zLookup z ⟨hz,hr⟩ _ ?_
 have ho:=off_of hr (t+63072000)
 have hq:(fromR z.lp t).1+(tupT (lookZ z (t+63072000))).1=civQ z t:=rfl
 have hqb:-719162 * 86400≤civQ z t∧civQ z t≤253402400000:=by
  unfold civQ; rw [f1]; simp only; omega
 rw [hq,w64_in (n:=civQ z t) (by omega) (by omega)]
 refine sPDay _ (by unfold i64r; omega) ?_
 refine sday _ ?_
 by_cases hd:-719162≤civQ z t / 86400∧civQ z t / 86400≤2932896
 ·rw [if_pos hd] at h ⊢
  rw [if_neg (by simp)]
  refine kStClock _ (by omega) (by omega) ?_
  unfold civC at h
  by_cases hs:(utcR z.lp t).2.1=86400
  ·rw [if_pos hs] at h
   rw [if_pos (by simpa using hs),w64_in (by omega) (by omega)]; exact h
  ·rw [if_neg hs,Int.add_zero] at h
   rw [if_neg (by simpa using hs)]; exact h
 ·rw [if_neg hd] at h ⊢
  rw [if_pos (by rfl)]; exact h
theorem look_ab {z:Zn} (hz:ZI z) (hr:zoneRight z=true) (a:Int):(lookZ z a).2.2.length≤1000:=by
 unfold lookZ
 split
 ·rename_i hf
  unfold zoneRight at hr
  simp only [Bool.and_eq_true] at hr
  have he:=hr.2
  unfold endsOk at he
  have hne:z.ft.isEmpty=false:=by cases hq:z.ft with | nil=>exact absurd hq hf.1 | cons c r=>rfl
  rw [hne,Bool.false_or,Bool.and_eq_true] at he
  have hok:=parse_ok _ he.1
  have hab:=fun (o:Int) (d:Bool) (l:List UInt8) (w:Bool) (h:kindR o d l w=true)=>(abbr_len (kind_iff.1 h).1).2
  unfold Ft.look
  unfold Ft.ok at hok
  rw [Bool.and_eq_true] at hok
  split
  ·rename_i hsum
   have hs:(Ft.parse z.ft).1.has=true:=hsum.2.1.1
   rw [hs,if_pos rfl] at hok
   simp only [Bool.and_eq_true] at hok
   have:=hab _ _ _ _ hok.2.1.1
   simp only; omega
  ·have:=hab _ _ _ _ hok.1
   simp only; omega
 ·split
  ·cases hq:z.ty with
   | nil=>simp
   | cons t r =>
    have:=hz.nm t (by rw [hq]; exact .head _)
    simp only [List.headD_cons]; omega
  ·rename_i c hc
   by_cases e:c.2.toNat < z.ty.length
   ·rw [List.getD,List.getElem?_eq_getElem e,Option.getD_some]
    have:=hz.nm _ (List.getElem_mem e)
    omega
   ·rw [List.getD,List.getElem?_eq_none (by omega),Option.getD_none]; simp
def showR (z:Zn) (t:Int):List UInt8×Int:=if (civR z t).2=0 then ((ctextL (civR z t).1).1,0) else ([],(civR z t).2)
theorem civ_ab {z:Zn} (hz:ZI z) (t:Int):(civR z t).1.ab.length≤1000:=by
 unfold civR
 cases hk:knownZ z
 ·simp [cv0]
 ·rw [if_neg (by simp)]
  split
  ·simp [cv0]
  ·split
   ·exact look_ab hz (knownZ_iff hk).1 _
   ·simp [cv0]
theorem sShow (z:Zn) (hz:ZI z) (t:Int) (ht:i64r t) {K:_→Int→Prop} (h:K (S (showR z t).1) (showR z t).2):Xq3w (tupZ z) t K:=by
 unfold Xq3w Yq3w
 refine sCivil z hz t ht ?_
 unfold showR at h
 have hab:=civ_ab hz t
 by_cases e:(civR z t).2=0
 ·rw [if_pos e] at h
  rw [if_pos (by simpa using e)]
  refine sLText _ (by omega) ?_
  rw [e]; exact h
 ·rw [if_neg e] at h
  rw [if_neg (by simpa using e)]; exact h
def secC (c:Cv):Int:=c.d * 86400+c.h * 3600+c.m * 60+c.s - c.off
def readR (z:Zn) (s:List UInt8):Int×Int :=
 if knownZ z=false then (0,1) else if (cparseL s).2=false then (0,2) else
 if showR z ((ptaiR z.lp (secC (cparseL s).1 - 1)).1+1)=(s,0) then ((ptaiR z.lp (secC (cparseL s).1 - 1)).1+1,0) else
 if showR z (ptaiR z.lp (secC (cparseL s).1)).1=(s,0) then ((ptaiR z.lp (secC (cparseL s).1)).1,0) else (0,11)
theorem tai_bd {l:List Rec} (hi:recI l) (d s:Int):0 - 63072400≤(taiR l d s).1∧(taiR l d s).1≤300000000000:=by
 unfold taiR
 split
 ·simp
 ·rename_i h0
  split
  ·simp
  ·split
   ·simp
   ·split
    ·simp
    ·have hk:knownR l=true∧730≤d∧d≤2932896:=by
      unfold lenR at h0
      split at h0
      ·simp at h0
      ·split at h0
       ·simp at h0
       ·rename_i a b
        refine ⟨by simpa using a,by omega,by omega⟩
     obtain ⟨hr,ht⟩:=known_right hk.1
     obtain ⟨tu,_⟩:=tab_rec (recB_of hr fun c hc=>(hi c hc).1.2) ht
     have hb:strt (tabT l).1.ls d=d * 86400+sumT (tabT l).1.ls (cntD (tabT l).1.ls d):=rfl
     have:=tu.sum (cntD (tabT l).1.ls d)
     simp only
     omega
theorem sLRd (z:Zn) (hz:ZI z) (s:List UInt8) (hs:s.length≤1000) {K:Int→Int→Prop} (h:K (readR z s).1 (readR z s).2):Xq3j (tupZ z) (S s) K:=by
 unfold Xq3j Yq3j
 refine sLKnown z hz ?_
 unfold readR at h
 cases hk:knownZ z
 ·rw [hk,if_pos rfl] at h
  rw [if_pos (by rfl)]; exact h
 rw [hk,if_neg (by simp)] at h
 rw [if_neg (by simp)]
 refine sLParse s hs ?_
 cases hp:(cparseL s).2
 ·rw [hp,if_pos rfl] at h
  rw [if_pos (by rfl)]; exact h
 rw [hp,if_neg (by simp)] at h
 rw [if_neg (by simp)]
 obtain ⟨o1,o2,o3,o4,o5,o6⟩:=okC_iff.1 (ctext_parse hp).1
 have hl:=hz.lp
 generalize (cparseL s).1=c at *
 dsimp only [tupC]
 have w1:w64 (w64 (c.d * 86400)+w64 (c.h * 3600))=c.d * 86400+c.h * 3600:=by
  rw [w64_in (n:=c.d * 86400) (by omega) (by omega),w64_in (n:=c.h * 3600) (by omega) (by omega),w64_in (by omega) (by omega)]
 have w2:w64 (c.d * 86400+c.h * 3600+w64 (c.m * 60))=c.d * 86400+c.h * 3600+c.m * 60:=by
  rw [w64_in (n:=c.m * 60) (by omega) (by omega),w64_in (by omega) (by omega)]
 have w3:w64 (w64 (c.d * 86400+c.h * 3600+c.m * 60+c.s) - c.off)=secC c:=by
  rw [w64_in (n:=c.d * 86400+c.h * 3600+c.m * 60+c.s) (by omega) (by omega),w64_in (by omega) (by omega)]; rfl
 have hsb:-100000000000≤secC c∧secC c≤300000000000:=by unfold secC; omega
 simp only [lt]
 rw [w1,w2,w3,w64_in (n:=secC c - 1) (by omega) (by omega)]
 refine sPTai z.lp hz.ri (by omega) _ (by unfold i64r; omega) ?_
 refine sPTai z.lp hz.ri (by omega) _ (by unfold i64r; omega) ?_
 have t1:=tai_bd hz.ri ((secC c - 1) / 86400) ((secC c - 1) % 86400)
 have t2:=tai_bd hz.ri (secC c / 86400) (secC c % 86400)
 unfold ptaiR at *
 generalize (taiR z.lp ((secC c - 1) / 86400) ((secC c - 1) % 86400)).1=u at *
 generalize (taiR z.lp (secC c / 86400) (secC c % 86400)).1=v at *
 rw [w64_in (n:=u+1) (by omega) (by omega)]
 have two:∀ (x:Int) (hx:i64r x) (Q:Prop),(if showR z x=(s,0) then K x 0 else Q)→Xq3w (tupZ z) x (fun r16 r17=>(if (r17 == 0)=true then (if (ByteArray.toList r16 == ByteArray.toList (S s))=true then K x 0 else Q) else Q)):=fun x hx Q hq=>by
  refine sShow z hz x hx ?_
  rw [kS_eq]
  by_cases e:showR z x=(s,0)
  ·rw [if_pos e] at hq
   rw [e,if_pos (by simp),if_pos (by simp)]; exact hq
  ·rw [if_neg e] at hq
   by_cases e1:(showR z x).2=0
   ·rw [if_pos (by simpa using e1)]
    rw [if_neg (by simp only [beq_iff_eq]; intro e2; exact e (Prod.ext e2 e1))]
    exact hq
   ·rw [if_neg (by simpa using e1)]; exact hq
 generalize hst:(fun j:Nat=>(((S s,(),0,0,(),2,(j:Int),()),tupZ z,[V.c (Value.int .i64 (u+1)),V.c (Value.int .i64 v)],()):(ByteArray×Unit×Int×Int×Unit×Int×Int×Unit)×(List V×List V×List V×ByteArray×Int×Unit)×List V×Unit))=st
 have s0:∀ k:_→Prop,(if showR z (u+1)=(s,0) then K (u+1) 0 else k (st 1))→Lq3j_0 Xq3w K k (st 0):=fun k hq=>by
  subst hst
  unfold Lq3j_0
  simp only [List.length_cons,List.length_nil]
  refine ifT (by rfl) (ifT (by simp) ?_)
  exact two (u+1) (by unfold i64r; omega) _ hq
 have s1:∀ k:_→Prop,(if showR z v=(s,0) then K v 0 else k (st 2))→Lq3j_0 Xq3w K k (st 1):=fun k hq=>by
  subst hst
  unfold Lq3j_0
  simp only [List.length_cons,List.length_nil]
  refine ifT (by rfl) (ifT (by simp) ?_)
  exact two v (by unfold i64r; omega) _ hq
 have s2:∀ k:_→Prop,K 0 11→Lq3j_0 Xq3w K k (st 2):=fun k hq=>by
  subst hst
  unfold Lq3j_0
  simp only [List.length_cons,List.length_nil]
  exact ifF (by simp) hq
 have h0:(((S s,(),0,0,(),((List.length [V.c (Value.int .i64 (u+1)),V.c (Value.int .i64 v)]:Nat):Int),0,()),tupZ z,[V.c (Value.int .i64 (u+1)),V.c (Value.int .i64 v)],()):(ByteArray×Unit×Int×Int×Unit×Int×Int×Unit)×(List V×List V×List V×ByteArray×Int×Unit)×List V×Unit)=st 0:=by subst hst; rfl
 by_cases e:showR z (u+1)=(s,0)
 ·rw [if_pos e] at h
  exact lp_at st 0 h0 fun j hj k hkk=>by
   have:j=0:=by omega
   subst this
   exact s0 k (by rw [if_pos e]; exact h)
 rw [if_neg e] at h
 by_cases e2:showR z v=(s,0)
 ·rw [if_pos e2] at h
  exact lp_at st 1 h0 fun j hj k hkk=>by
   rcases (show j=0∨j=1 by omega) with rfl | rfl
   ·exact s0 k (by rw [if_neg e]; exact hkk (by decide))
   ·exact s1 k (by rw [if_pos e2]; exact h)
 rw [if_neg e2] at h
 exact lp_at st 2 h0 fun j hj k hkk=>by
  rcases (show j=0∨j=1∨j=2 by omega) with rfl | rfl | rfl
  ·exact s0 k (by rw [if_neg e]; exact hkk (by decide))
  ·exact s1 k (by rw [if_neg e2]; exact hkk (by decide))
  ·exact s2 k h
end Go.Proofs.YtbnpclndiichcaaGreatDoor
end
section
set_option linter.unusedVariables false
set_option linter.unusedSimpArgs false
namespace Go.Proofs.YtbnpclndiichcaaGreatDoor
open Go Go.Proofs.YtbnpclndiichcaaGreatDoor.Eng Go.Proofs.YtbnpclndiichcaaGreatDoor.Pl
set_option maxRecDepth 100000
set_option maxHeartbeats 4000000
theorem trOk_in (n:Nat):∀ (l:List Rec) (b:Option Int),trOk n b l=true→∀ c∈l,0≤c.2∧c.2 < n
 | [],b,h,c,hc=>by cases hc
 | x :: l,b,h,c,hc=>by
  simp only [trOk,Bool.and_eq_true,decide_eq_true_eq] at h
  rcases List.mem_cons.1 hc with rfl | hc
  ·exact h.1.1
  ·exact trOk_in n l _ h.2 c hc
theorem look_abbr {z:Zn} (hr:zoneRight z=true) (a:Int):abbrL (lookZ z a).2.2=true:=by
 unfold zoneRight at hr
 simp only [Bool.and_eq_true] at hr
 obtain ⟨⟨⟨⟨⟨c,r⟩,e⟩,ty⟩,tr⟩,en⟩:=hr
 unfold countOk at c
 simp only [Bool.and_eq_true] at c
 obtain ⟨⟨⟨⟨⟨⟨c1,c2⟩,c3⟩,c4⟩,c5⟩,c6⟩,c7⟩:=c
 have hin:∀ t∈z.ty,abbrL t.2.2=true:=fun t ht=>List.all_eq_true.1 c1 _ (List.mem_map.2 ⟨t,ht,rfl⟩)
 have hp:1≤z.ty.length:=by
  unfold nin at c5
  simp only [decide_eq_true_eq] at c5; omega
 unfold lookZ
 split
 ·rename_i hf
  unfold endsOk at en
  have hne:z.ft.isEmpty=false:=by cases hq:z.ft with | nil=>exact absurd hq hf.1 | cons c r=>rfl
  rw [hne,Bool.false_or,Bool.and_eq_true] at en
  have hok:=parse_ok _ en.1
  unfold Ft.look
  unfold Ft.ok at hok
  rw [Bool.and_eq_true] at hok
  split
  ·rename_i hsum
   have hs:(Ft.parse z.ft).1.has=true:=hsum.2.1.1
   rw [hs,if_pos rfl] at hok
   simp only [Bool.and_eq_true] at hok
   exact (kind_iff.1 hok.2.1.1).1
  ·exact (kind_iff.1 hok.1).1
 ·split
  ·cases hq:z.ty with
   | nil=>rw [hq] at hp; simp at hp
   | cons t r=>exact hin t (by rw [hq]; exact .head _)
  ·rename_i c hc
   have hm:c∈z.tr:=List.mem_of_mem_take (List.mem_of_getLast? hc)
   have:=trOk_in _ _ _ tr c hm
   have e:c.2.toNat < z.ty.length:=by omega
   rw [List.getD,List.getElem?_eq_getElem e,Option.getD_some]
   exact hin _ (List.getElem_mem e)
structure CivOk (z:Zn) (t:Int):Prop where
 k:knownZ z=true
 u:(utcR z.lp t).2.2=0
 d:-719162≤civQ z t / 86400∧civQ z t / 86400≤2932896
 e:civR z t=(civC z t,0)
theorem civ_ok {z:Zn} {t:Int} (h:(civR z t).2=0):CivOk z t:=by
 unfold civR at h
 cases hk:knownZ z
 ·rw [hk,if_pos rfl] at h; simp at h
 rw [hk,if_neg (by simp)] at h
 by_cases hu:(utcR z.lp t).2.2≠0
 ·rw [if_pos hu] at h; exact absurd h hu
 rw [if_neg hu] at h
 by_cases hd:-719162≤civQ z t / 86400∧civQ z t / 86400≤2932896
 ·refine ⟨hk,by omega,hd,?_⟩
  unfold civR
  rw [hk,if_neg (by simp),if_neg hu,if_pos hd]
 ·rw [if_neg hd] at h; simp at h
def insT (z:Zn) (t:Int):Int:=if (utcR z.lp t).2.1=86400 then 1 else 0
theorem CivOk.ok {z:Zn} {t:Int} (h:CivOk z t):okC (civC z t)=true:=by
 obtain ⟨hr,_⟩:=knownZ_iff h.k
 have ho:=off_of hr (t+63072000)
 refine okC_iff.2 ⟨h.d,?_,?_,?_,ho,look_abbr hr _⟩
 ·show 0≤civQ z t % 86400 / 3600∧civQ z t % 86400 / 3600≤23; omega
 ·show 0≤civQ z t % 86400 / 60 % 60∧civQ z t % 86400 / 60 % 60≤59; omega
 ·show 0≤civQ z t % 86400 % 60+(if (utcR z.lp t).2.1=86400 then 1 else 0)∧civQ z t % 86400 % 60+(if (utcR z.lp t).2.1=86400 then 1 else 0)≤60
  split <;> omega
theorem civ_sec (z:Zn) (t:Int):secC (civC z t)=(fromR z.lp t).1+insT z t:=by
 show civQ z t / 86400 * 86400+civQ z t % 86400 / 3600 * 3600+civQ z t % 86400 / 60 % 60 * 60+(civQ z t % 86400 % 60+(if (utcR z.lp t).2.1=86400 then 1 else 0)) - (lookZ z (t+63072000)).1=_
 have hq:civQ z t=(fromR z.lp t).1+(lookZ z (t+63072000)).1:=rfl
 unfold insT
 generalize civQ z t=q at *
 omega
theorem show_ok {z:Zn} {t:Int} {s:List UInt8} (h:showR z t=(s,0)):CivOk z t∧s=ctextB (civC z t)∧cparseL s=(⟨(civC z t).d,(civC z t).h,(civC z t).m,(civC z t).s,(civC z t).off,false,(civC z t).ab⟩,true):=by
 unfold showR at h
 by_cases e:(civR z t).2=0
 ·have hc:=civ_ok e
  rw [if_pos e,hc.e] at h
  unfold ctextL at h
  simp only at h
  rw [hc.ok,if_pos rfl] at h
  have hs:ctextB (civC z t)=s:=congrArg (·.1) h
  refine ⟨hc,hs.symm,?_⟩
  rw [← hs]
  exact cparse_text hc.ok
 ·rw [if_neg e] at h
  exact absurd (congrArg (·.2) h) e
theorem show_same {z:Zn} (hz:ZI z) {t u:Int} {s:List UInt8} (ht:showR z t=(s,0)) (hu:showR z u=(s,0)):u=t∨(insT z u=1∧insT z t=0∧u+1=t∧(lookZ z (t+63072000)).1 % 60≠0)∨(insT z u=0∧insT z t=1):=by
 obtain ⟨ct,_,pt⟩:=show_ok ht
 obtain ⟨cu,_,pu⟩:=show_ok hu
 rw [pt] at pu
 have he:=congrArg (·.1) pu
 simp only [Cv.mk.injEq] at he
 obtain ⟨e1,e2,e3,e4,e5,_,e6⟩:=he
 have hsec:secC (civC z t)=secC (civC z u):=by unfold secC; rw [e1,e2,e3,e4,e5]
 rw [civ_sec,civ_sec] at hsec
 obtain ⟨f1,_⟩:=from_val hz.ri ct.u
 obtain ⟨g1,_⟩:=from_val hz.ri cu.u
 obtain ⟨a1,a2,a3,a4,a5,tu⟩:=utc_bd hz.ri ct.u
 obtain ⟨b1,b2,b3,b4,b5,_⟩:=utc_bd hz.ri cu.u
 rw [f1,g1] at hsec
 simp only at hsec
 have hs1:=stepD_bd tu (utcR z.lp t).1
 have hs2:=stepD_bd tu (utcR z.lp u).1
 have e4':civQ z t % 86400 % 60+insT z t=civQ z u % 86400 % 60+insT z u:=e4
 have e5':(lookZ z (t+63072000)).1=(lookZ z (u+63072000)).1:=e5
 have q1:civQ z t=ofP (utcR z.lp t).1 (utcR z.lp t).2.1+(lookZ z (t+63072000)).1:=by unfold civQ; rw [f1]
 have q2:civQ z u=ofP (utcR z.lp u).1 (utcR z.lp u).2.1+(lookZ z (u+63072000)).1:=by unfold civQ; rw [g1]
 rw [← e5'] at q2
 generalize (lookZ z (t+63072000)).1=off at *
 clear e1 e2 e3 e4 e5 e6 pt pu
 unfold insT ofP at *
 have hst:=strt_succ tu (utcR z.lp u).1
 generalize hdt:(utcR z.lp t).1=dt at *
 generalize hst':(utcR z.lp t).2.1=st at *
 generalize hdu:(utcR z.lp u).1=du at *
 generalize hsu:(utcR z.lp u).2.1=su at *
 by_cases i1:st=86400
 ·by_cases i2:su=86400
  ·rw [if_pos i1,if_pos i2] at hsec
   have:dt=du:=by omega
   subst this
   exact .inl (by omega)
  ·exact .inr (.inr ⟨by rw [if_neg i2],by rw [if_pos i1]⟩)
 ·by_cases i2:su=86400
  ·rw [if_neg i1,if_pos i2] at hsec
   have:dt=du+1:=by omega
   subst this
   refine .inr (.inl ⟨by rw [if_pos i2],by rw [if_neg i1],by omega,?_⟩)
   rw [if_neg i1,if_pos i2] at e4'
   omega
  ·rw [if_neg i1,if_neg i2] at hsec
   have:dt=du:=by omega
   subst this
   exact .inl (by omega)
theorem tai_of {l:List Rec} (hi:recI l) {t:Int} (h:(utcR l t).2.2=0):((utcR l t).2.1≠86400→ptaiR l (ofP (utcR l t).1 (utcR l t).2.1)=(t,0))∧((utcR l t).2.1=86400→ptaiR l (ofP (utcR l t).1 (utcR l t).2.1)=(t - 1,0)):=by
 obtain ⟨a1,a2,a3,a4,a5,tu⟩:=utc_bd hi h
 obtain ⟨hk,h0,hp,_,_⟩:=utcR_ok h
 have hs:=stepD_bd tu (utcR l t).1
 generalize (utcR l t).1=d at *
 generalize (utcR l t).2.1=s at *
 have len:lenR l d=(86400+stepD (tabT l).1.ls d,0):=by
  unfold lenR
  rw [hk,if_neg (by simp),if_neg (by omega)]
 have main:∀ x,0≤x→x≤86399→x < 86400+stepD (tabT l).1.ls d→strt (tabT l).1.ls d+x≤t+63072000→ptaiR l (d * 86400+x)=(strt (tabT l).1.ls d+x - 63072000,0):=fun x h1 h2 h3 h4=>by
  unfold ptaiR
  have e1:(d * 86400+x) / 86400=d:=by omega
  have e2:(d * 86400+x) % 86400=x:=by omega
  rw [e1,e2]
  unfold taiR
  rw [len]
  simp only
  rw [if_neg (by omega),if_neg (by omega),if_neg (by omega)]
  have:pastR l (strt (tabT l).1.ls d+x)=false:=by
   unfold pastR at hp ⊢
   cases hle:lastExp l
   ·rfl
   ·rw [hle,Bool.true_and,decide_eq_false_iff_not] at hp
    rw [Bool.true_and,decide_eq_false_iff_not]; omega
  rw [this,if_neg (by simp)]
 unfold ofP
 refine ⟨fun hn=>?_,fun hn=>?_⟩
 ·rw [show min s 86399=s by omega,main s a4 (by omega) a5 (by omega)]
  exact Prod.ext (by show strt _ d+s - 63072000=t; omega) rfl
 ·rw [show min s 86399=86399 by omega,main 86399 (by omega) (by omega) (by omega) (by omega)]
  exact Prod.ext (by show strt _ d+86399 - 63072000=t - 1; omega) rfl
theorem read_show {z:Zn} (hz:ZI z) {t:Int} {s:List UInt8} (h:showR z t=(s,0)) :
  ∃ u,readR z s=(u,0)∧u≤t∧i64r u∧showR z u=(s,0)∧((lookZ z (t+63072000)).1 % 60=0→u=t):=by
 obtain ⟨ct,_,pt⟩:=show_ok h
 obtain ⟨f1,f2,f3,f4,f5⟩:=from_val hz.ri ct.u
 obtain ⟨t1,t2⟩:=tai_of hz.ri ct.u
 unfold readR
 rw [ct.k,if_neg (by simp),pt,if_neg (by simp)]
 have hsec:secC (⟨(civC z t).d,(civC z t).h,(civC z t).m,(civC z t).s,(civC z t).off,false,(civC z t).ab⟩:Cv)=ofP (utcR z.lp t).1 (utcR z.lp t).2.1+insT z t:=by
  have:=civ_sec z t
  rw [f1] at this
  exact this
 simp only
 rw [hsec]
 by_cases hi:(utcR z.lp t).2.1=86400
 ·have e:insT z t=1:=by unfold insT; rw [if_pos hi]
  rw [e,show ofP (utcR z.lp t).1 (utcR z.lp t).2.1+1 - 1=ofP (utcR z.lp t).1 (utcR z.lp t).2.1 by omega,t2 hi]
  rw [show ((t - 1,(0:Int)).1+1)=t by show t - 1+1=t; omega,h,if_pos rfl]
  exact ⟨t,rfl,by omega,by unfold i64r; omega,h,fun _=>rfl⟩
 ·have e:insT z t=0:=by unfold insT; rw [if_neg hi]
  rw [e,Int.add_zero,t1 hi]
  by_cases hu:showR z ((ptaiR z.lp (ofP (utcR z.lp t).1 (utcR z.lp t).2.1 - 1)).1+1)=(s,0)
  ·rw [if_pos hu]
   have hb:=tai_bd hz.ri ((ofP (utcR z.lp t).1 (utcR z.lp t).2.1 - 1) / 86400) ((ofP (utcR z.lp t).1 (utcR z.lp t).2.1 - 1) % 86400)
   rw [show taiR z.lp ((ofP (utcR z.lp t).1 (utcR z.lp t).2.1 - 1) / 86400) ((ofP (utcR z.lp t).1 (utcR z.lp t).2.1 - 1) % 86400)=ptaiR z.lp (ofP (utcR z.lp t).1 (utcR z.lp t).2.1 - 1) from rfl] at hb
   rcases show_same hz h hu with q | ⟨_,_,q,q2⟩ | ⟨_,q⟩
   ·exact ⟨_,rfl,by omega,by unfold i64r; omega,hu,fun _=>q⟩
   ·exact ⟨_,rfl,by omega,by unfold i64r; omega,hu,fun q3=>absurd q3 q2⟩
   ·rw [e] at q; omega
  ·rw [if_neg hu,h,if_pos rfl]
   exact ⟨t,rfl,by omega,by unfold i64r; omega,h,fun _=>rfl⟩
end Go.Proofs.YtbnpclndiichcaaGreatDoor
end
section
set_option linter.unusedVariables false
set_option linter.unusedSimpArgs false
namespace Go.Proofs.YtbnpclndiichcaaGreatDoor
open Go Go.Proofs.YtbnpclndiichcaaGreatDoor.Eng Go.Proofs.YtbnpclndiichcaaGreatDoor.Pl
set_option maxRecDepth 100000
set_option maxHeartbeats 4000000
def lz:Zn:=⟨[(-18000,false,[69,83,84])],[],[(78796800,1)],[],2⟩
def lz0:Zn:=⟨[],[],[],[],0⟩
theorem ilz:ZI lz:=⟨by decide,by decide,by decide,by decide,by decide,by unfold recI; decide,by unfold recI; decide,by decide⟩
theorem ilz0:ZI lz0:=⟨by decide,by decide,by decide,by decide,by decide,by unfold recI; decide,by unfold recI; decide,by decide⟩
def lt1:List UInt8:=[49,57,55,50,45,48,54,45,51,48,84,49,56,58,53,57,58,54,48,45,48,53,58,48,48,32,69,83,84]
def lt2:List UInt8:=[49,57,55,50,45,48,54,45,51,48,84,49,57,58,48,48,58,48,48,45,48,53,58,48,48,32,69,83,84]
def lt3:List UInt8:=[49,57,55,50,45,48,54,45,51,48,84,49,56,58,53,57,58,53,57,45,48,53,58,48,48,32,69,83,84]
def lt4:List UInt8:=[49,57,55,50,45,48,54,45,51,48,84,49,56,58,53,57,58,53,57,45,48,52,58,48,48,32,69,68,84]
def lt5:List UInt8:=[49,57,55,50,45,48,54,45,51,48,32,49,56,58,53,57,58,53,57]
def lt6:List UInt8:=[50,48,48,48,45,48,49,45,48,49,84,48,48,58,48,48,58,48,48,43,48,53,58,51,48,58,49,53,32,76,77,84]
def lt7:List UInt8:=[50,48,48,48,45,48,49,45,48,49,84,48,48,58,48,48,58,48,48,45,48,48,58,48,48,32,85,84,67]
theorem sShowAt (z:Zn) (hz:ZI z) (t:Int) (ht:i64r t) (r:List UInt8×Int) (e:showR z t=r) {K:_→Int→Prop} (h:K (S r.1) r.2):Xq3w (tupZ z) t K:=sShow z hz t ht (by rw [e]; exact h)
theorem sLRdAt (z:Zn) (hz:ZI z) (s:List UInt8) (hs:Nat.ble s.length 1000=true) (r:Int×Int) (e:readR z s=r) {K:Int→Int→Prop} (h:K r.1 r.2):Xq3j (tupZ z) (S s) K:=sLRd z hz s (Nat.le_of_ble_eq_true hs) (by rw [e]; exact h)
theorem sLParseAt (s:List UInt8) (hs:Nat.ble s.length 1000=true) (r:Cv×Bool) (e:cparseL s=r) {K:_→Bool→Prop} (h:K (tupC r.1) r.2):Xq34 (S s) K:=sLParse s (Nat.le_of_ble_eq_true hs) (by rw [e]; exact h)
theorem kT (l:List UInt8):(ByteArray.toList (S l) == ByteArray.toList (S l))=true:=by simp
def lc6:Cv:=⟨10957,0,0,0,19815,false,[76,77,84]⟩
def lc0:Cv:=⟨729,19,0,0,-18000,false,[69,83,84]⟩
theorem lsmall {K:Bool→Prop} (h:K true):Xq13 K:=by
 rw [Xq13,Yq13]
 refine sShowAt lz ilz 15724800 (by unfold i64r; decide) (lt1,0) (by kernel_rfl) ?_
 refine sShowAt lz ilz 15724801 (by unfold i64r; decide) (lt2,0) (by kernel_rfl) ?_
 refine sLRdAt lz ilz lt1 (by decide) (15724800,0) (by kernel_rfl) ?_
 refine sLRdAt lz ilz lt3 (by decide) (15724799,0) (by kernel_rfl) ?_
 refine sLRdAt lz ilz lt4 (by decide) (0,11) (by kernel_rfl) ?_
 refine sLRdAt lz ilz lt5 (by decide) (0,2) (by kernel_rfl) ?_
 refine sLParseAt lt6 (by decide) (lc6,true) (by kernel_rfl) ?_
 refine sLText lc6 (by decide) ?_
 rw [show ctextL lc6=(lt6,true) by kernel_rfl]
 refine sLParseAt lt7 (by decide) (cv0,false) (by kernel_rfl) ?_
 refine sShowAt lz ilz (-1) (by unfold i64r; decide) ([],9) (by kernel_rfl) ?_
 refine sCivil lz ilz 0 (by unfold i64r; decide) ?_
 rw [show civR lz 0=(lc0,0) by kernel_rfl]
 refine sShowAt lz0 ilz0 0 (by unfold i64r; decide) ([],1) (by kernel_rfl) ?_
 refine ifT (kT lt1) (ifT (by rfl) (ifT (kT lt2) (ifT (by rfl) (ifT (by rfl) (ifT (by rfl) (ifT (by rfl) (ifT (by rfl) (ifT (by rfl) (ifT (by rfl) (ifT (by rfl) (ifT (by rfl) (ifT (kT lt6) (ifT (by rfl) (ifT (by rfl) (ifT (by rfl) (ifT (by rfl) (ifT (by kernel_rfl) (ifT (by rfl) ?_))))))))))))))))))
 refine sLKnown lz ilz ?_
 rw [show knownZ lz=true by kernel_rfl]
 exact h
theorem parse_no {s:List UInt8} (h:(cparseL s).2=false):(cparseL s).1=cv0:=by
 unfold cparseL cparseB at h ⊢
 split
 ·rfl
 ·rename_i h0
  rw [if_neg h0] at h
  split
  ·rfl
  ·rename_i h1
   rw [if_neg h1] at h
   split at h
   ·split at h
    ·cases h
    ·rename_i h2; rw [if_neg h2]
   ·rfl
end Go.Proofs.YtbnpclndiichcaaGreatDoor
end
section
set_option linter.unusedVariables false
set_option linter.unusedSimpArgs false
namespace Go.Proofs.YtbnpclndiichcaaGreatDoor
open Go Go.Proofs.YtbnpclndiichcaaGreatDoor.Eng Go.Proofs.YtbnpclndiichcaaGreatDoor.Pl
theorem rleap (y:Int) {K} (h:K (leapY y)):Xq1m y K:=by
 unfold Xq1m Yq1m
 obtain ⟨t1,t2,t3⟩:=tmod_leap y
 have fin:∀ z:Bool,(z=true↔(y % 4=0∧(y % 100≠0∨y % 400=0)))→K z:=fun z hz=>cast (congrArg K (Bool.eq_iff_iff.2 ((leapY_iff y).trans hz.symm))) h
 simp only [beq_iff_eq,bne_iff_ne,ne_eq,t1,t2]
 refine ifC (fun h1=>ifC (fun h2=>fin _ ?_) fun h2=>fin _ ?_) fun h1=>fin _ ?_
 ·simp; omega
 ·rw [beq_iff_eq,t3]; omega
 ·rw [beq_iff_eq,t3]; omega
theorem rdays (y m:Int) (h1:1≤m) (h2:m≤12) {K} (h:K (dim y m)):Xq1v y m K:=by
 unfold Xq1v Yq1v
 rw [w64_in (by omega) (by omega)]
 rcases month_cases h1 h2 with rfl | rfl | rfl | rfl | rfl | rfl | rfl | rfl | rfl | rfl | rfl | rfl
 all_goals first
  | exact ifF (by decide) (ifT (by decide) h)
  |(refine ifT rfl (rleap _ ?_)
    unfold dim at h
    rw [if_pos rfl] at h
    refine ifC (fun hl=>?_) fun hl=>ifT (by decide) ?_
    ·rw [if_pos hl] at h; exact h
    ·rw [if_neg hl] at h; exact h)
theorem rlast (y m:Int) {K} (h:K (if 1≤y∧y≤9999∧1≤m∧m≤12 then dim y m else 0) (decide (1≤y∧y≤9999∧1≤m∧m≤12))):Xq1o y m K:=by
 unfold Xq1o Yq1o
 simp only [decide_eq_true_eq,gt_iff_lt]
 by_cases e:1≤y∧y≤9999∧1≤m∧m≤12
 ·rw [if_pos e,decide_eq_true e] at h
  exact ifF (by omega) (ifF (by omega) (ifF (by omega) (ifF (by omega) (rdays _ _ (by omega) (by omega) h))))
 ·rw [if_neg e,decide_eq_false e] at h
  exact ifC (fun _=>h) fun _=>ifC (fun _=>h) fun _=>ifC (fun _=>h) fun _=>ifT (by omega) h
theorem rfirst (y:Int) (h1:1≤y) (h2:y≤10001) {K} (h:K (fst y)):Xq16 y K:=by
 unfold Xq16 Yq16
 unfold fst at h
 simp only [lt]
 simp (disch:=omega) only [w64_in,Int.tdiv_eq_ediv_of_nonneg]
 exact h
theorem cum_one (y:Int):cum y 1=0:=by unfold cum cum0; simp
theorem cum_bd (y m:Int) (h1:1≤m) (h2:m≤12):0≤cum y m∧cum y m≤335:=by
 unfold cum cum0
 rcases month_cases h1 h2 with rfl | rfl | rfl | rfl | rfl | rfl | rfl | rfl | rfl | rfl | rfl | rfl
 all_goals (simp only [if_true,if_false,Int.reduceEq]; split <;> omega)
theorem rnum (y m d:Int) (hd0:-9223372036854775808≤d) (hd1:d≤9223372036854775807) {K} (h:K (if okD y m d then num y m d else 0) (decide (okD y m d))):Xq0h y m d K:=by
 unfold Xq0h Yq0h
 refine rlast _ _ ?_
 simp only [decide_eq_true_eq,gt_iff_lt,lt]
 by_cases e:1≤y∧y≤9999∧1≤m∧m≤12
 ·rw [decide_eq_true e,if_pos e]
  refine ifF (by simp) ?_
  by_cases e2:1≤d∧d≤dim y m
  ·have ok:okD y m d:=⟨e.1,e.2.1,e.2.2.1,e.2.2.2,e2.1,e2.2⟩
   rw [if_pos ok,decide_eq_true ok] at h
   have hd:=dim_bd y m
   have hf:=fst_bd e.1 e.2.1
   have hf2:=fst_le (y:=y) (z:=y+1) (by omega)
   refine ifF (by omega) (ifF (by omega) (rfirst y (by omega) (by omega) ?_))
   rw [w64_in (n:=fst y+d) (by omega) (by omega),w64_in (n:=fst y+d - 1) (by omega) (by omega)]
   refine lp_at (fun j:Nat=>((y,m,(0:Int),false,fst y+d - 1+cum y (1+j),(1+j:Int),()),())) (m - 1).toNat (by simp [cum_one]) fun j hj k hk=>?_
   unfold Lq0h_0
   simp only [decide_eq_true_eq]
   have hc:=cum_bd y (1+j) (by omega) (by omega)
   by_cases hlt:(1+j:Int) < m
   ·refine ifT hlt (rdays _ _ (by omega) (by omega) ?_)
    have hs:=cum_succ y (1+j) (by omega) (by omega)
    rw [if_neg (by omega)] at hs
    have hdj:=dim_bd y (1+j)
    have:=hk (by omega)
    rw [w64_in (by omega) (by omega),w64_in (by omega) (by omega)]
    refine cast (congrArg k ?_) this
    simp only [Prod.mk.injEq,and_true,true_and]
    constructor
    ·rw [show (1:Int)+((j+1:Nat):Int)=1+j+1 by omega]; omega
    ·omega
   ·refine ifF hlt ?_
    have:(1+j:Int)=m:=by omega
    rw [this]
    unfold num at h
    rw [show fst y+d - 1+cum y m=fst y+cum y m+d - 1 by omega]; exact h
  ·have ok:¬ okD y m d:=fun h=>e2 h.2.2.2.2
   rw [if_neg ok,decide_eq_false ok] at h
   exact ifC (fun _=>h) fun _=>ifT (by omega) h
 ·have ok:¬ okD y m d:=fun h=>e ⟨h.1,h.2.1,h.2.2.1,h.2.2.2.1⟩
  rw [if_neg ok,decide_eq_false ok] at h
  rw [decide_eq_false e]
  exact ifT rfl h
theorem rweek (n:Int) {K} (h:K (wk n)):Xq1s n K:=by
 unfold Xq1s Yq1s
 have ht:-7 < Int.tmod n 7∧Int.tmod n 7 < 7∧(Int.tmod n 7+11) % 7=(n+4) % 7:=by
  rw [Int.tmod_eq_emod]; split <;> simp <;> omega
 simp only [lt]
 rw [w64_in (by omega) (by omega),Int.tmod_eq_emod_of_nonneg (by omega),ht.2.2]; exact h
theorem rdiv (a b:Int) (h0:-9223372036854775808≤a) (h1:a≤9223372036854775807) (hb:1≤b) (hb':b≤9223372036854775807) {K} (h:K (a / b) (a % b) true):Xq2j a b K:=sdiv a b h0 h1 hb hb' h
theorem radd (a b:Int) (ha:-9223372036854775808≤a∧a≤9223372036854775807) (hb:-9223372036854775808≤b∧b≤9223372036854775807) {K}
  (h:if -9223372036854775808≤a+b∧a+b≤9223372036854775807 then K (a+b) true else K 0 false):Xq24 a b K:=by
 unfold Xq24 Yq24
 simp only [decide_eq_true_eq,gt_iff_lt]
 by_cases e:-9223372036854775808≤a+b∧a+b≤9223372036854775807
 ·rw [if_pos e] at h
  rw [w64_in e.1 e.2]
  refine ifC (fun h1=>?_) fun h1=>?_
  ·rw [w64_in (n:=9223372036854775807 - b) (by omega) (by omega)]
   exact ifF (by omega) (ifF (by omega) h)
  ·refine ifC (fun h2=>?_) fun h2=>h
   rw [w64_in (n:=-9223372036854775808 - b) (by omega) (by omega)]
   exact ifF (by omega) h
 ·rw [if_neg e] at h
  refine ifC (fun h1=>?_) fun h1=>?_
  ·rw [w64_in (n:=9223372036854775807 - b) (by omega) (by omega)]
   exact ifT (by omega) h
  ·refine ifC (fun h2=>?_) fun h2=>absurd ha (by omega)
   rw [w64_in (n:=-9223372036854775808 - b) (by omega) (by omega)]
   exact ifT (by omega) h
theorem rdate (n:Int) {K} (h:if -719162≤n∧n≤2932896 then K (yearP n) (monP n) (dayP n) true else K 0 0 0 false):Xq1u n K:=by
 unfold Xq1u Yq1u
 simp only [decide_eq_true_eq,gt_iff_lt,lt]
 by_cases e:-719162≤n∧n≤2932896
 ·rw [if_pos e] at h
  refine ifF (by omega) (ifF (by omega) ?_)
  obtain ⟨hv,hn⟩:=num_date e.1 e.2
  have hb:=num_bd hv
  rw [hn] at hb
  obtain ⟨v1,v2,v3,v4,v5,v6⟩:=hv
  generalize yearP n=y at *
  generalize monP n=m at *
  generalize dayP n=d at *
  rw [show n - -719162=n+719162 by omega,w64_in (n:=n+719162) (by omega) (by omega),Int.tdiv_eq_ediv_of_nonneg (by omega),w64_in (n:=(n+719162) / 366) (by omega) (by omega),w64_in (by omega) (by omega)]
  have hy0:(n+719162) / 366+1≤y:=by
   have h2:=hb.2
   unfold fst at h2
   omega
  refine lp_at (fun j:Nat=>((n,(0:Int),(0:Int),(0:Int),false,(n+719162) / 366+1+(j:Int),()),())) (y - ((n+719162) / 366+1)).toNat (by simp) fun j hj k hk=>?_
  unfold Lq1u_0
  simp only [decide_eq_true_eq,ge_iff_le]
  rw [w64_in (by omega) (by omega)]
  refine rfirst _ (by omega) (by omega) ?_
  by_cases hlt:(n+719162) / 366+1+(j:Int) < y
  ·have hle:=fst_le (y:=(n+719162) / 366+1+(j:Int)+1) (z:=y) (by omega)
   refine ifT (by omega) ?_
   have:=hk (by omega)
   rw [show (n+719162) / 366+1+((j+1:Nat):Int)=(n+719162) / 366+1+(j:Int)+1 by omega] at this
   exact this
  ·have ey:(n+719162) / 366+1+(j:Int)=y:=by omega
   rw [ey]
   refine ifF (by omega) (rfirst _ (by omega) (by omega) ?_)
   have hf:=fst_bd v1 v2
   rw [w64_in (n:=n - fst y) (by omega) (by omega)]
   refine lp_at (fun i:Nat=>(((0:Int),(0:Int),(0:Int),false,y,n - fst y - cum y (1+i),(1+i:Int),()),())) (m - 1).toNat (by simp [cum_one]) fun i hi k hk=>?_
   unfold Lq1u_1
   simp only [decide_eq_true_eq,ge_iff_le]
   have hnum:n=fst y+cum y m+d - 1:=by rw [← hn]; rfl
   have hc:=cum_bd y (1+i) (by omega) (by omega)
   have hcm:=cum_bd y m (by omega) (by omega)
   have hdm:=dim_bd y m
   refine rdays _ _ (by omega) (by omega) ?_
   by_cases hl2:(1+i:Int) < m
   ·have hs:=cum_succ y (1+i) (by omega) (by omega)
    rw [if_neg (by omega)] at hs
    have mono:∀ (q:Nat) (a:Int),1≤a→a+q≤12→cum y a≤cum y (a+q):=by
     intro q
     induction q with
     | zero=>intro a _ _; simp
     | succ q ih =>
      intro a h1 h2
      have h3:=ih a h1 (by omega)
      have h4:=cum_mono y (a+q) (by omega) (by omega)
      rw [show a+((q+1:Nat):Int)=a+q+1 by omega]; omega
    have hm:=mono (m - (1+i+1)).toNat (1+i+1) (by omega) (by omega)
    rw [show (1+i+1:Int)+(((m - (1+i+1)).toNat:Nat):Int)=m by omega] at hm
    have hc2:=cum_bd y (1+i+1) (by omega) (by omega)
    refine ifT (by omega) (rdays _ _ (by omega) (by omega) ?_)
    have:=hk (by omega)
    rw [w64_in (by omega) (by omega),w64_in (by omega) (by omega)]
    rw [show (1:Int)+((i+1:Nat):Int)=1+i+1 by omega] at this
    rw [show n - fst y - cum y (1+i) - dim y (1+i)=n - fst y - cum y (1+i+1) by omega]
    exact this
   ·have em:(1+i:Int)=m:=by omega
    rw [em]
    refine ifF (by omega) ?_
    rw [w64_in (by omega) (by omega),show n - fst y - cum y m+1=d by omega]; exact h
 ·rw [if_neg e] at h
  exact ifC (fun _=>h) fun _=>ifT (by omega) h
end Go.Proofs.YtbnpclndiichcaaGreatDoor
end
section
set_option linter.unusedVariables false
set_option linter.unusedSimpArgs false
namespace Go.Proofs.YtbnpclndiichcaaGreatDoor
open Go Go.Proofs.YtbnpclndiichcaaGreatDoor.Eng Go.Proofs.YtbnpclndiichcaaGreatDoor.Pl
theorem rruleRight (k a b c x:Int) {K} (h:K (rightR k a b c x)):Xq1e (k,a,b,c,x,()) K:=by
 unfold Xq1e Yq1e
 simp only [beq_iff_eq,decide_eq_true_eq,gt_iff_lt,ge_iff_le]
 have fin:∀ z:Bool,(z=true↔((-604799≤x∧x≤604799)∧((k=0∧1≤a∧a≤12∧1≤b∧b≤5∧0≤c∧c≤6)∨(k=1∧1≤a∧a≤365∧b=0∧c=0)∨(k=2∧0≤a∧a≤365∧b=0∧c=0))))→K z:=fun z hz =>
  cast (congrArg K (Bool.eq_iff_iff.2 ((right_iff k a b c x).trans hz.symm))) h
 clear h
 repeat' (first | refine ifC (fun _=>?_) (fun _=>?_) | refine fin _ ?_)
 all_goals (simp only [decide_eq_true_eq,Bool.false_eq_true,false_iff,beq_iff_eq]; omega)
theorem wu8_in {n:Int} (h0:0≤n) (h1:n≤255):wu8 n=n:=by
 simp only [wu8,IntKind.wrap,IntKind.bits,IntKind.signed]
 try simp
 try omega
theorem rtwo (l:List UInt8) {K} (h:K (if (sixtyL l).2.2=true then (sixtyL l).1 else -1) (S (sixtyL l).2.1)):Xq28 (S l) K:=by
 unfold Xq28 Yq28
 simp only [S_size,S_extract,decide_eq_true_eq,gt_iff_lt,bne_iff_ne,ne_eq]
 match l,h with
 | [],h=>exact ifT (by simp) h
 | [_],h=>exact ifT (by simp) h
 | [_,_],h=>exact ifT (by simp) h
 | c :: a :: b :: r,h =>
  have hlen:(c :: a :: b :: r).length=r.length+3:=rfl
  rw [hlen,bAt0,bAt1,bAt2]
  obtain ⟨p,hp⟩:∃ p,p=sixtyL (c :: a :: b :: r):=⟨_,rfl⟩
  rw [← hp] at h
  refine ifF (by omega) (ifT (by omega) ?_)
  by_cases hh:c=58∧isDig a=true∧isDig b=true∧a.toNat≤53
  ·rw [sixty_yes hh] at hp
   subst hp
   obtain ⟨rfl,ha,hb,h5⟩:=hh
   unfold isDig at ha hb
   simp at ha hb
   refine ifF (by decide) (ifT (by omega) (ifF (by omega) (ifT (by omega) (ifF (by omega) (ifT (by omega) (ifF (by omega) (ifT (by omega) (ifF (by omega) (ifT (by omega) ?_)))))))))
   simp only [lt]
   refine ifT (by omega) ?_
   rw [wu8_in (by omega) (by omega),wu8_in (by omega) (by omega)]
   simp (disch:=omega) only [w64_in]
   refine ifT (by omega) (ifT (by omega) ?_)
   have e3:((58 :: a :: b :: r).drop 3).take (Int.toNat ((r.length+3:Nat):Int) - 3)=r:=by
    rw [show (58 :: a :: b :: r).drop 3=r from rfl,List.take_of_length_le (by omega)]
   rw [e3]; exact h
  ·rw [sixty_no hh] at hp
   subst hp
   have h':K (-1) (S (c :: a :: b :: r)):=h
   by_cases hc:c=58
   ·subst hc
    have hd:¬ (48≤a.toNat∧a.toNat≤57∧48≤b.toNat∧b.toNat≤57∧a.toNat≤53):=fun hd=>hh ⟨rfl,by unfold isDig; simp; omega,by unfold isDig; simp; omega,hd.2.2.2.2⟩
    refine ifF (by decide) (ifT (by omega) (ifC (fun _=>h') fun _=>ifT (by omega) (ifC (fun _=>h') fun _=>ifT (by omega) (ifC (fun _=>h') fun _=>ifT (by omega) (ifT (by omega) h')))))
   ·exact ifT (fun h=>hc (u8_eq (by
                     have:c.toNat=58:=by omega
                     exact this))) h'
end Go.Proofs.YtbnpclndiichcaaGreatDoor
end
section
set_option linter.unusedVariables false
set_option linter.unusedSimpArgs false
namespace Go.Proofs.YtbnpclndiichcaaGreatDoor
open Go Go.Proofs.YtbnpclndiichcaaGreatDoor.Eng Go.Proofs.YtbnpclndiichcaaGreatDoor.Pl
theorem valL_take_lt (l:List UInt8) (j:Nat) (hj:j≤dl l) (hj4:j≤4):valL (l.take j) < 10000:=by
 have h:=valL_lt _ (take_dl_dig l j hj)
 have hl:(l.take j).length≤4:=by rw [List.length_take]; omega
 have:10 ^ (l.take j).length≤10 ^ 4:=Nat.pow_le_pow_right (by omega) hl
 omega
theorem bAt_get (l:List UInt8) (j:Nat) (h:j < l.length):Eng.bAt (S l) j=(l[j].toNat:Int):=by
 rw [bAt_S]; simp [h]
theorem rnumE (l:List UInt8) (m hi j v:Nat) (hj:j≤l.length) {K:Int→ByteArray→Prop} (h:if j < 1∨m < j∨hi < v then K (-1) (S l) else K (v:Int) (S (l.drop j))) :
  if decide ((j:Int) < (1:Int))=true then K (-1:Int) (S l) else if decide ((j:Int) > (m:Int))=true then K (-1:Int) (S l) else if decide ((v:Int) > (hi:Int))=true then K (-1:Int) (S l) else
   if (0:Int)≤(↑(ByteArray.size (S l)):Int)∧(↑(ByteArray.size (S l)):Int)≤(↑(ByteArray.size (S l)):Int) then
    (if (0:Int)≤(j:Int)∧(j:Int)≤(↑(ByteArray.size (S l)):Int) then K (v:Int) (ByteArray.extract (S l) (Int.toNat (j:Int)) (Int.toNat (↑(ByteArray.size (S l)):Int))) else False) else False:=by
 simp only [decide_eq_true_eq,gt_iff_lt,S_size,S_extract,Int.toNat_natCast,take_all]
 by_cases e:j < 1∨m < j∨hi < v
 ·rw [if_pos e] at h
  exact ifC (fun _=>h) fun _=>ifC (fun _=>h) fun _=>ifT (by omega) h
 ·rw [if_neg e] at h
  exact ifF (by omega) (ifF (by omega) (ifF (by omega) (ifT (by omega) (ifT (by omega) h))))
theorem rnumber (l:List UInt8) (m hi:Nat) (hm:m≤3) (hl:l.length≤140737488351232) {K} (h:K (refNum l m hi).1 (S (refNum l m hi).2)):Xq0i (S l) 1 (m:Int) (hi:Int) K:=by
 unfold Xq0i Yq0i
 have hd:=dl_le l
 have fin:∀ j,j=min (dl l) (m+1)→if j < 1∨m < j∨hi < valL (l.take j) then K (-1) (S l) else K (valL (l.take j):Int) (S (l.drop j)):=by
  intro j hj
  unfold refNum at h
  by_cases e:dl l=0∨m < dl l
  ·rw [if_pos (by omega)] at h
   exact ifT (by omega) h
  ·have:j=dl l:=by omega
   subst this
   by_cases e2:hi < valL (l.take (dl l))
   ·rw [if_pos (by omega)] at h
    exact ifT (by omega) h
   ·rw [if_neg (by omega)] at h
    exact ifF (by omega) h
 refine lp_at (fun j:Nat=>((S l,(1:Int),(m:Int),(hi:Int),(0:Int),ByteArray.mk #[],(valL (l.take j):Int),(j:Int),()),())) (min (dl l) (m+1)) (by simp [valL]) fun j hj k hk=>?_
 unfold Lq0i_0
 have hv:=valL_take_lt l j (by omega) (by omega)
 by_cases hlt:j < min (dl l) (m+1)
 ·have hjl:j < l.length:=by omega
  have hdig:=dl_digit l j (by omega)
  rw [isDig_iff] at hdig
  simp only [S_size,decide_eq_true_eq,ge_iff_le,Int.toNat_natCast,bAt_get l j hjl,lt]
  refine ifT (by omega) (ifT (by omega) (ifT (by omega) (ifT (by omega) (ifT (by omega) (ifT (by omega) (ifT (by omega) ?_))))))
  have:=hk hlt
  rw [take_succ_at l j hjl,valL_snoc] at this
  rw [wu8_in (by omega) (by omega)]
  simp (disch:=omega) only [w64_in]
  refine cast (congrArg k ?_) this
  simp only [Prod.mk.injEq,and_true,true_and]
  omega
 ·have ej:j=min (dl l) (m+1):=by omega
  have hex:=rnumE l m hi j (valL (l.take j)) (by omega) (fin j ej)
  simp only [decide_eq_true_eq,gt_iff_lt,ge_iff_le] at hex ⊢
  by_cases c1:j < l.length
  ·simp only [S_size,Int.toNat_natCast,bAt_get l j c1]
   simp only [S_size,Int.toNat_natCast] at hex
   refine ifT (by omega) (ifT (by omega) ?_)
   by_cases c2:j=m+1
   ·refine ifC (fun _=>ifT (by omega) (ifC (fun _=>ifF (by omega) hex) fun _=>hex)) fun _=>hex
   ·have hj2:j=dl l:=by omega
    subst hj2
    have hs:=dl_stop l c1
    have hs':¬ (48≤l[dl l].toNat∧l[dl l].toNat≤57):=fun h=>by rw [(isDig_iff _).2 h] at hs; cases hs
    refine ifC (fun _=>ifT (by omega) (ifF (by omega) hex)) fun _=>hex
  ·refine ifF (by rw [S_size]; omega) hex
theorem rdot (l:List UInt8) (hl:l.length≤140737488351232) {K} (h:K (refDot l).1 (S (refDot l).2)):Xq22 (S l) K:=by
 unfold Xq22 Yq22
 simp only [S_size,S_extract,decide_eq_true_eq,bne_iff_ne,ne_eq,Int.toNat_natCast,take_all]
 unfold refDot at h
 cases l with
 | nil=>exact ifT (by simp) h
 | cons c r =>
  rw [bAt0]
  simp only [List.length_cons] at hl ⊢
  refine ifF (by omega) (ifT (by omega) ?_)
  by_cases e:c=46
  ·subst e
   rw [if_pos (show (46 :: r).head? = some 46 from rfl)] at h
   refine ifF (by decide) (ifT (by omega) (ifT (by omega) (rnumber _ 1 9 (by omega) (by simp; omega) ?_)))
   exact h
  ·rw [if_neg (by simpa using e)] at h
   exact ifT (fun h=>e (u8_eq (by
                    have:c.toNat=46:=by omega
                    exact this))) h
theorem refNum_len (l:List UInt8) (m hi:Nat):(refNum l m hi).2.length≤l.length:=by
 unfold refNum; split
 ·exact Nat.le_refl _
 ·simp
theorem refDot_len (l:List UInt8):(refDot l).2.length≤l.length:=by
 unfold refDot; split
 ·have:=refNum_len l.tail 1 9
  rw [List.length_tail] at this; omega
 ·exact Nat.le_refl _
theorem rhead (l:List UInt8) (hl:l.length≤140737488351232) {K} (h:K ((refHead l).1,(refHead l).2.1,(refHead l).2.2.1,(refHead l).2.2.2.1,7200,()) (S (refHead l).2.2.2.2)):Xq1x (S l) K:=by
 unfold Xq1x Yq1x
 simp only [S_size,S_extract,decide_eq_true_eq,beq_iff_eq,gt_iff_lt,Int.toNat_natCast,take_all]
 unfold refHead at h
 cases l with
 | nil =>
  simp only [List.length_nil] at hl ⊢
  rw [if_neg (by simp),if_neg (by simp)] at h
  exact ifF (by omega) (ifF (by omega) (rnumber [] 3 365 (by omega) (by simp) h))
 | cons c r =>
  rw [bAt0]
  simp only [List.length_cons] at hl ⊢
  refine ifT (by omega) (ifT (by omega) ?_)
  by_cases e:c=77
  ·subst e
   rw [if_pos (show (77 :: r).head? = some 77 from rfl)] at h
   simp only [List.tail_cons] at h
   have q1:=refNum_len r 2 12
   have q2:=refDot_len (refNum r 2 12).2
   exact ifT (by decide) (ifT (by omega) (ifT (by omega) (rnumber r 2 12 (by omega) (by omega) (rdot _ (by omega) (rdot _ (by omega) h)))))
  ·rw [if_neg (by simpa using e)] at h
   refine ifF (fun h=>e (u8_eq (by
                    have:c.toNat=77:=by omega
                    exact this))) (ifT (by omega) (ifT (by omega) ?_))
   by_cases e2:c=74
   ·subst e2
    rw [if_pos (show (74 :: r).head? = some 74 from rfl)] at h
    simp only [List.tail_cons] at h
    exact ifT (by decide) (ifT (by omega) (ifT (by omega) (rnumber r 3 365 (by omega) (by omega) h)))
   ·rw [if_neg (by simpa using e2)] at h
    exact ifF (fun h=>e2 (u8_eq (by
                     have:c.toNat=74:=by omega
                     exact this))) (rnumber (c :: r) 3 365 (by omega) (by simp; omega) h)
theorem refHead_len (l:List UInt8):(refHead l).2.2.2.2.length≤l.length:=by
 unfold refHead
 have q0:l.tail.length≤l.length:=by rw [List.length_tail]; omega
 have q1:=refNum_len l.tail 2 12
 have q2:=refDot_len (refNum l.tail 2 12).2
 have q3:=refDot_len (refDot (refNum l.tail 2 12).2).2
 have q4:=refNum_len l.tail 3 365
 have q5:=refNum_len l 3 365
 repeat' split
 all_goals (simp only; omega)
theorem rtimeE (l t:List UInt8) (sg:Int) (hsg:sg=1∨sg=-1) (v j:Nat) (hv:v≤167) (hj:j≤t.length) {K:Int→ByteArray→Bool→Prop}
  (h:if j=0 then K 0 (S l) false else K (sg * ((v:Int) * 3600+(sixtyL (t.drop j)).1 * 60+(moreL (sixtyL (t.drop j))).1)) (S (moreL (sixtyL (t.drop j))).2.1) true) :
  if ((j:Int) == (0:Int))=true then K (0:Int) (S l) false else
   if (0:Int)≤(↑(ByteArray.size (S t)):Int)∧(↑(ByteArray.size (S t)):Int)≤(↑(ByteArray.size (S t)):Int) then
    (if (0:Int)≤(j:Int)∧(j:Int)≤(↑(ByteArray.size (S t)):Int) then
     Xq28 (ByteArray.extract (S t) (Int.toNat (j:Int)) (Int.toNat (↑(ByteArray.size (S t)):Int))) (fun r27 r28 =>
      (if decide (r27 < (0:Int))=true then
       (lt (w64 (w64 (sg * (3600:Int)) * (v:Int))) fun v29=>K v29 (ByteArray.extract (S t) (Int.toNat (j:Int)) (Int.toNat (↑(ByteArray.size (S t)):Int))) true)
      else
       Xq28 r28 (fun r30 r31 =>
        (if decide (r30 < (0:Int))=true then
         (lt (w64 (w64 ((3600:Int) * (v:Int))+w64 ((60:Int) * r27))) fun v32=>K (w64 (sg * v32)) r28 true)
        else
         (lt (w64 (w64 ((3600:Int) * (v:Int))+w64 ((60:Int) * r27))) fun v33=>(lt (w64 (sg * w64 (v33+r30))) fun v34=>K v34 r31 true))))))
    else False) else False:=by
 simp only [beq_iff_eq,S_size,S_extract,decide_eq_true_eq,Int.toNat_natCast,take_all,lt]
 by_cases e:j=0
 ·rw [if_pos e] at h
  exact ifT (by omega) h
 ·rw [if_neg e] at h
  refine ifF (by omega) (ifT (by omega) (ifT (by omega) (rtwo _ ?_)))
  have b1:=sixty_bd (t.drop j)
  by_cases e2:(sixtyL (t.drop j)).2.2=true
  ·rw [if_pos e2]
   refine ifF (by omega) (rtwo _ ?_)
   have b2:=sixty_bd (sixtyL (t.drop j)).2.1
   have em:moreL (sixtyL (t.drop j))=sixtyL (sixtyL (t.drop j)).2.1:=by unfold moreL; rw [if_pos e2]
   rw [em] at h
   by_cases e3:(sixtyL (sixtyL (t.drop j)).2.1).2.2=true
   ·rw [if_pos e3]
    refine ifF (by omega) ?_
    rcases hsg with rfl | rfl
    ·simp (disch:=omega) only [w64_in]
     refine cast (congrArg (fun z=>K z (S (sixtyL (sixtyL (t.drop j)).2.1).2.1) true) ?_) h
     omega
    ·simp (disch:=omega) only [w64_in]
     refine cast (congrArg (fun z=>K z (S (sixtyL (sixtyL (t.drop j)).2.1).2.1) true) ?_) h
     omega
   ·rw [if_neg e3]
    refine ifT (by omega) ?_
    have hz:(sixtyL (sixtyL (t.drop j)).2.1).1=0∧(sixtyL (sixtyL (t.drop j)).2.1).2.1=(sixtyL (t.drop j)).2.1:=sixty_bad _ (by simpa using e3)
    rw [hz.1,hz.2] at h
    rcases hsg with rfl | rfl
    ·simp (disch:=omega) only [w64_in]
     refine cast (congrArg (fun z=>K z (S (sixtyL (t.drop j)).2.1) true) ?_) h
     omega
    ·simp (disch:=omega) only [w64_in]
     refine cast (congrArg (fun z=>K z (S (sixtyL (t.drop j)).2.1) true) ?_) h
     omega
  ·rw [if_neg e2]
   refine ifT (by omega) ?_
   have hz:=sixty_bad _ (by simpa using e2)
   have em:moreL (sixtyL (t.drop j))=(0,(sixtyL (t.drop j)).2.1,false):=by unfold moreL; rw [if_neg e2]
   rw [em,hz.1] at h
   simp only at h
   rw [hz.2] at h
   rcases hsg with rfl | rfl
   ·simp (disch:=omega) only [w64_in]
    refine cast (congrArg (fun z=>K z (S (t.drop j)) true) ?_) h
    omega
   ·simp (disch:=omega) only [w64_in]
    refine cast (congrArg (fun z=>K z (S (t.drop j)) true) ?_) h
    omega
theorem valL_mono (a b:List UInt8):valL a≤valL (a++b):=by
 have:∀ (b:List UInt8) (n:Nat),n≤b.foldl (fun n c=>10 * n+(c.toNat - 48)) n:=by
  intro b
  induction b with
  | nil=>intro n; exact Nat.le_refl _
  | cons c b ih=>intro n; rw [List.foldl_cons]; exact Nat.le_trans (by omega) (ih _)
 unfold valL
 rw [List.foldl_append]
 exact this b _
theorem rtimeL (l t:List UInt8) (sg:Int) (hsg:sg=1∨sg=-1) (hl:t.length≤140737488351232) {K:Int→ByteArray→Bool→Prop}
  (h:if dl t=0 then K 0 (S l) false else K (sg * (((hourL t).1:Int) * 3600+(sixtyL (t.drop (hourL t).2)).1 * 60+(moreL (sixtyL (t.drop (hourL t).2))).1)) (S (moreL (sixtyL (t.drop (hourL t).2))).2.1) true) :
  Eng.lp (Lq21_0 Xq28 K) ((S l,(0:Int),ByteArray.mk #[],false,S t,sg,(0:Int),(0:Int),()),()):=by
 obtain ⟨b1,b2,b3,b4⟩:=hour_bd t
 have hd:=dl_le t
 have hmin:valL (t.take (min (dl t) 3)) > 167→min (dl t) 3=3:=fun hg=>by
  have h2:valL (t.take (min (dl t) 3)) < 10 ^ (t.take (min (dl t) 3)).length:=valL_lt _ (take_dl_dig t _ (Nat.min_le_left _ _))
  rcases Nat.lt_or_ge (min (dl t) 3) 3 with h | h
  ·have:(t.take (min (dl t) 3)).length≤2:=by rw [List.length_take]; omega
   have:10 ^ (t.take (min (dl t) 3)).length≤10 ^ 2:=Nat.pow_le_pow_right (by omega) this
   omega
  ·omega
 have hspec:(hourL t).1=valL (t.take (hourL t).2)∧((hourL t).2=t.length∨(hourL t).2=3∨∃ hlt:(hourL t).2 < t.length,¬ (48≤t[(hourL t).2].toNat∧t[(hourL t).2].toNat≤57)∨167 < 10 * (hourL t).1+(t[(hourL t).2].toNat - 48)):=by
  by_cases hg:valL (t.take (min (dl t) 3)) > 167
  ·have h3:=hmin hg
   have hh:hourL t=(valL (t.take 3) / 10,2):=by unfold hourL; rw [if_pos hg,h3]
   rw [h3] at hg
   have hlt:2 < t.length:=by omega
   have hdig:=(isDig_iff _).1 (dl_digit t 2 (by omega))
   rw [take_succ_at t 2 hlt,valL_snoc] at hh hg
   rw [hh]
   simp only
   refine ⟨by omega,.inr (.inr ⟨hlt,.inr ?_⟩)⟩
   omega
  ·have hh:hourL t=(valL (t.take (min (dl t) 3)),min (dl t) 3):=by unfold hourL; rw [if_neg hg]
   rw [hh]
   simp only
   refine ⟨trivial,?_⟩
   rcases Nat.lt_or_ge (dl t) 3 with h3 | h3
   ·have hm:min (dl t) 3=dl t:=by omega
    rw [hm]
    rcases Nat.lt_or_ge (dl t) t.length with hlt | hge
    ·refine .inr (.inr ⟨hlt,.inl fun hc=>?_⟩)
     have hs:=dl_stop t hlt
     rw [(isDig_iff _).2 hc] at hs; cases hs
    ·exact .inl (by omega)
   ·exact .inr (.inl (by omega))
 obtain ⟨hval,hex⟩:=hspec
 have fin:(if (hourL t).2=0 then K 0 (S l) false else K (sg * (((hourL t).1:Int) * 3600+(sixtyL (t.drop (hourL t).2)).1 * 60+(moreL (sixtyL (t.drop (hourL t).2))).1)) (S (moreL (sixtyL (t.drop (hourL t).2))).2.1) true):=by
  by_cases e:dl t=0
  ·rw [if_pos e] at h
   exact ifT (by omega) h
  ·rw [if_neg e] at h
   exact ifF (by have:=b4 e; omega) h
 have hE:=rtimeE l t sg hsg (hourL t).1 (hourL t).2 b1 (by omega) fin
 refine lp_at (fun j:Nat=>((S l,(0:Int),ByteArray.mk #[],false,S t,sg,(j:Int),(valL (t.take j):Int),()),())) (hourL t).2 (by simp [valL]) fun j hj k hk=>?_
 unfold Lq21_0
 by_cases hlt:j < (hourL t).2
 ·have hjl:j < t.length:=by omega
  have hdig:=(isDig_iff _).1 (dl_digit t j (by omega))
  have hv1:valL (t.take (j+1))≤167:=by
   have e:t.take (hourL t).2=t.take (j+1)++(t.take (hourL t).2).drop (j+1):=by
    have:=List.take_append_drop (j+1) (t.take (hourL t).2)
    rw [List.take_take,Nat.min_eq_left (by omega)] at this
    exact this.symm
   have:=valL_mono (t.take (j+1)) ((t.take (hourL t).2).drop (j+1))
   rw [← e,← hval] at this
   omega
  have:=hk hlt
  rw [take_succ_at t j hjl,valL_snoc] at this hv1
  simp only [S_size,decide_eq_true_eq,ge_iff_le,Int.toNat_natCast,bAt_get t j hjl,lt]
  rw [wu8_in (by omega) (by omega),w64_in (n:=(t[j].toNat:Int) - 48) (by omega) (by omega),w64_in (n:=10 * (valL (t.take j):Int)) (by omega) (by omega),
   w64_in (n:=10 * (valL (t.take j):Int)+((t[j].toNat:Int) - 48)) (by omega) (by omega),w64_in (n:=(j:Int)+1) (by omega) (by omega)]
  refine ifT (by omega) (ifT (by omega) (ifT (by omega) (ifT (by omega) (ifT (by omega) (ifT (by omega) (ifT (by omega) (ifT (by omega) (ifT (by omega) ?_))))))))
  refine cast (congrArg k ?_) this
  simp only [Prod.mk.injEq,and_true,true_and]
  omega
 ·have ej:j=(hourL t).2:=by omega
  have hE':=hE
  rw [hval] at hE' hex
  rw [← ej] at hE' hex
  have hj3:valL (t.take j) < 10000:=valL_take_lt t j (by omega) (by omega)
  simp only [decide_eq_true_eq,ge_iff_le] at hE' ⊢
  rcases hex with hx | hx | ⟨hlt2,hx⟩
  ·exact ifF (by rw [S_size]; omega) hE'
  ·refine ifC (fun _=>?_) fun _=>hE'
   exact ifF (by omega) hE'
  ·simp only [Int.toNat_natCast,bAt_get t j hlt2] at hE' ⊢
   refine ifT (by rw [S_size]; omega) (ifC (fun _=>?_) fun _=>hE')
   refine ifT (by rw [S_size]; omega) ?_
   by_cases hg:48≤t[j].toNat∧t[j].toNat≤57
   ·refine ifT (by omega) (ifT (by rw [S_size]; omega) (ifT (by omega) (ifT (by rw [S_size]; omega) ?_)))
    simp only [lt]
    rw [wu8_in (by omega) (by omega),w64_in (n:=(t[j].toNat:Int) - 48) (by omega) (by omega),w64_in (n:=10 * (valL (t.take j):Int)) (by omega) (by omega),
     w64_in (n:=10 * (valL (t.take j):Int)+((t[j].toNat:Int) - 48)) (by omega) (by omega)]
    exact ifF (by omega) hE'
   ·refine ifC (fun _=>?_) fun _=>hE'
    refine ifT (by rw [S_size]; omega) (ifF (by omega) hE')
end Go.Proofs.YtbnpclndiichcaaGreatDoor
end
section
set_option linter.unusedVariables false
set_option linter.unusedSimpArgs false
namespace Go.Proofs.YtbnpclndiichcaaGreatDoor
open Go Go.Proofs.YtbnpclndiichcaaGreatDoor.Eng Go.Proofs.YtbnpclndiichcaaGreatDoor.Pl
theorem u8_of {c d:UInt8} (h:(c.toNat:Int)=(d.toNat:Int)):c=d:=u8_eq (by omega)
theorem drop1 (c:UInt8) (r:List UInt8):ByteArray.extract (S (c :: r)) 1 (Int.toNat (↑(ByteArray.size (S (c :: r))):Int))=S r:=by
 rw [S_extract,S_size,Int.toNat_natCast,take_all]; rfl
theorem rtime (l:List UInt8) (hl:l.length≤140737488351232) {K} (h:K (timeL l).1 (S (timeL l).2.1) (timeL l).2.2):Xq21 (S l) K:=by
 unfold Xq21 Yq21
 have key:∀ (t:List UInt8) (sg:Int),(sg=1∨sg=-1)→signL l=(sg,t)→t.length≤l.length→Eng.lp (Lq21_0 Xq28 K) ((S l,(0:Int),ByteArray.mk #[],false,S t,sg,(0:Int),(0:Int),()),()):=by
  intro t sg hsg he ht
  refine rtimeL l t sg hsg (by omega) ?_
  unfold timeL at h
  rw [he] at h
  by_cases e:dl t=0
  ·rw [if_pos e] at h
   exact ifT e h
  ·rw [if_neg e] at h
   exact ifF e h
 cases l with
 | nil=>exact ifF (by decide) (key [] 1 (.inl rfl) rfl (Nat.le_refl _))
 | cons c r =>
  have hs:(↑(ByteArray.size (S (c :: r))):Int)=(r.length:Int)+1:=by rw [S_size]; rfl
  rw [drop1,bAt0,hs]
  simp only [decide_eq_true_eq,gt_iff_lt,beq_iff_eq]
  refine ifT (by omega) (ifT (by omega) (ifC (fun e=>?_) fun e=>ifT (by omega) (ifC (fun e2=>?_) fun e2=>?_)))
  ·have:c=45:=u8_of e
   subst this
   exact ifT (by omega) (ifT e (ifT (by omega) (ifT (by omega) (key r (-1) (.inr rfl) rfl (by simp)))))
  ·have:c=43:=u8_of e2
   subst this
   exact ifT (by omega) (ifF e (ifT (by omega) (ifT (by omega) (key r 1 (.inl rfl) rfl (by simp)))))
  ·refine key (c :: r) 1 (.inl rfl) ?_ (Nat.le_refl _)
   show (if c=45 then ((-1:Int),r) else if c=43 then (1,r) else (1,c :: r))=(1,c :: r)
   rw [if_neg (fun h=>e (by rw [h]; rfl)),if_neg (fun h=>e2 (by rw [h]; rfl))]
theorem rruleParse (l:List UInt8) (hl:l.length≤140737488351232) {K} (h:K ((parseL l).1,(parseL l).2.1,(parseL l).2.2.1,(parseL l).2.2.2.1,(parseL l).2.2.2.2.1,()) (S (parseL l).2.2.2.2.2.1) (parseL l).2.2.2.2.2.2):Xq1i (S l) K:=by
 unfold Xq1i Yq1i
 refine rhead l hl (rruleRight _ _ _ _ _ ?_)
 have hlen:=refHead_len l
 by_cases hR:rightR (refHead l).1 (refHead l).2.1 (refHead l).2.2.1 (refHead l).2.2.2.1 7200=true
 ·refine ifF (by simp [hR]) ?_
  have hd:=head_yes l hR
  have hp:parseL l=if (refHead l).2.2.2.2.head? = some 47 then
    (if (timeL (refHead l).2.2.2.2.tail).2.2=true∧rightR (refHead l).1 (refHead l).2.1 (refHead l).2.2.1 (refHead l).2.2.2.1 (timeL (refHead l).2.2.2.2.tail).1=true then
     ((refHead l).1,(refHead l).2.1,(refHead l).2.2.1,(refHead l).2.2.2.1,(timeL (refHead l).2.2.2.2.tail).1,(timeL (refHead l).2.2.2.2.tail).2.1,true) else (0,0,0,0,0,l,false))
    else ((refHead l).1,(refHead l).2.1,(refHead l).2.2.1,(refHead l).2.2.2.1,7200,(refHead l).2.2.2.2,true):=by
   unfold parseL
   rw [hd]
   simp only [if_true]
   rw [if_pos hR]
  generalize parseL l=q at *
  generalize (refHead l).2.2.2.2=rest at *
  cases rest with
  | nil =>
   rw [if_neg (by simp)] at hp
   subst hp
   exact ifF (by rw [S_size]; simp) h
  | cons c r =>
   have hs:(↑(ByteArray.size (S (c :: r))):Int)=(r.length:Int)+1:=by rw [S_size]; rfl
   rw [drop1,bAt0,hs]
   simp only [List.length_cons] at hlen
   simp only [decide_eq_true_eq,gt_iff_lt,beq_iff_eq]
   refine ifT (by omega) (ifT (by omega) (ifC (fun e=>?_) fun e=>?_))
   ·have:c=47:=u8_of e
    subst this
    rw [if_pos (show (47 :: r).head? = some 47 from rfl),List.tail_cons] at hp
    refine ifT (by omega) (ifT (by omega) (rtime r (by omega) ?_))
    have hb:=time_bd r
    have hs:=right_sec (refHead l).1 (refHead l).2.1 (refHead l).2.2.1 (refHead l).2.2.2.1 (timeL r).1 7200 ⟨hb.1,hb.2.1⟩ (by omega)
    have hR':=hs.trans hR
    by_cases ht:(timeL r).2.2=true
    ·rw [if_pos ⟨ht,hR'⟩] at hp
     subst hp
     exact ifF (by simp [ht]) h
    ·rw [if_neg (fun h=>ht h.1)] at hp
     subst hp
     exact ifT (by simpa using ht) h
   ·rw [if_neg (fun h=>e (by simp at h; rw [h]; rfl))] at hp
    subst hp
    exact h
 ·have hno:(dateL l).2.2.2.2.2=true→¬ rightR (dateL l).1 (dateL l).2.1 (dateL l).2.2.1 (dateL l).2.2.2.1 7200=true:=by
   intro ho h
   have e:=head_of l ho h
   rw [e] at hR
   exact hR h
  have hz:parseL l=(0,0,0,0,0,l,false):=by
   unfold parseL
   by_cases ho:(dateL l).2.2.2.2.2=true
   ·rw [if_pos ho]
    have h':=hno ho
    split
    ·have hb:=time_bd (dateL l).2.2.2.2.1.tail
     rw [if_neg (fun h=>h' ((right_sec _ _ _ _ 7200 (timeL (dateL l).2.2.2.2.1.tail).1 (by omega) ⟨hb.1,hb.2.1⟩).trans h.2))]
    ·first | rfl | rw [if_neg h']
   ·rw [if_neg ho]
  rw [hz] at h
  exact ifT (by simpa using hR) h
theorem rdayLoop (n last A B C:Int) (r:Int) (hr:r=(C - wk n+7) % 7) (hC:0≤C∧C≤6) (hB:1≤B∧B≤5) (hl:28≤last∧last≤31) (hn:-800000≤n∧n≤3000000) (K0 X:Int) {K:Int→Bool→Prop} (h:K (atW n r B last) true) :
  Eng.lp (Lq27_0 Xq1s K) (((),(0:Int),false,n,last,(-1:Int),(0:Int),n,()),(K0,A,B,C,X,()),()):=by
 have hr6:0≤r∧r≤6:=by omega
 refine lp_at (fun t:Nat=>(((),(0:Int),false,n,last,atW n r B t,manyW r B t,n+(t:Int),()),(K0,A,B,C,X,()),())) last.toNat ?_ fun t ht k hk=>?_
 ·have hm0:manyW r B ((0:Nat):Int)=0:=by unfold manyW hits; split <;> omega
  have ha0:atW n r B ((0:Nat):Int)=-1:=by unfold atW; rw [hm0]; rfl
  simp only [hm0,ha0]
  simp
 ·unfold Lq27_0
  simp only [decide_eq_true_eq,beq_iff_eq]
  have hw:wk (n+t)=C↔(t:Int) % 7=r:=by
   unfold wk at hr ⊢
   omega
  have hm:0≤manyW r B t∧manyW r B t≤5:=by unfold manyW hits; split <;> omega
  rw [w64_in (n:=n+last) (by omega) (by omega)]
  by_cases hlt:(t:Int) < last
  ·have ih:=hk (by omega)
   rw [show ((t+1:Nat):Int)=(t:Int)+1 by omega] at ih
   refine ifT (by omega) (rweek _ ?_)
   rw [w64_in (n:=n+t+1) (by omega) (by omega),w64_in (n:=manyW r B t+1) (by omega) (by omega),show n+(t:Int)+1=n+((t:Int)+1) by omega]
   refine ifC (fun c=>?_) fun c=>?_
   ·have c':=hw.1 c
    refine ifC (fun b=>?_) fun b=>?_
    ·have e2:manyW r B (t+1)=manyW r B t+1:=by
      unfold manyW hits at b ⊢
      split at b <;> split <;> omega
     have e3:atW n r B (t+1)=n+t:=by
      unfold atW
      rw [e2,if_neg (by omega)]
      unfold manyW hits at b ⊢
      split at b <;> omega
     rw [e2,e3] at ih
     exact ih
    ·have e2:manyW r B (t+1)=manyW r B t:=by
      unfold manyW hits at b ⊢
      split at b <;> split <;> omega
     have e3:atW n r B (t+1)=atW n r B t:=by unfold atW; rw [e2]
     rw [e2,e3] at ih
     exact ih
   ·have c':¬ (t:Int) % 7=r:=fun h=>c (hw.2 h)
    have e2:manyW r B (t+1)=manyW r B t:=by
     unfold manyW
     have:hits r ((t:Int)+1)=hits r t:=by unfold hits; omega
     rw [this]
    have e3:atW n r B (t+1)=atW n r B t:=by unfold atW; rw [e2]
    rw [e2,e3] at ih
    exact ih
  ·refine ifF (by omega) ?_
   have:(t:Int)=last:=by omega
   rw [this]; exact h
theorem rruleDay (k a b c x y:Int) {K} (h:K (if (1≤y∧y≤9999)∧rightR k a b c x=true then ruleDay k a b c y else 0) (decide ((1≤y∧y≤9999)∧rightR k a b c x=true))):Xq27 (k,a,b,c,x,()) y K:=by
 unfold Xq27 Yq27
 refine rnum _ _ _ (by omega) (by omega) (rruleRight _ _ _ _ _ ?_)
 simp only [decide_eq_true_eq,gt_iff_lt,ge_iff_le,lt,beq_iff_eq]
 have h1:okD y 1 1↔(1≤y∧y≤9999):=by unfold okD; have:=dim_jan y; omega
 by_cases e:rightR k a b c x=true
 ·refine ifF (by simp [e]) ?_
  by_cases ey:1≤y∧y≤9999
  ·rw [if_pos (h1.2 ey),decide_eq_true (h1.2 ey)]
   refine ifF (by simp) ?_
   rw [if_pos ⟨ey,e⟩,decide_eq_true ⟨ey,e⟩] at h
   obtain ⟨hx,hr⟩:=(right_iff k a b c x).1 e
   have hf:=fst_bd ey.1 ey.2
   have hf2:=fst_succ y
   rw [num_first]
   unfold ruleDay at h
   refine ifC (fun k1=>?_) fun k1=>?_
   ·rw [if_neg (by omega),if_pos k1] at h
    rw [w64_in (n:=fst y+a) (by omega) (by omega),w64_in (n:=fst y+a - 1) (by omega) (by omega)]
    refine ifC (fun ha=>rleap _ ?_) fun ha=>?_
    ·refine ifC (fun hl=>?_) fun hl=>?_
     ·rw [if_neg (by rintro (h | h); omega; rw [hl] at h; cases h)] at h
      rw [w64_in (by omega) (by omega),show fst y+a - 1+1=fst y+a by omega]; exact h
     ·rw [if_pos (.inr (by simpa using hl))] at h
      rw [show fst y+a - 1=fst y - 1+a by omega]; exact h
    ·rw [if_pos (.inl (by omega))] at h
     rw [show fst y+a - 1=fst y - 1+a by omega]; exact h
   ·refine ifC (fun k2=>?_) fun k2=>?_
    ·rw [if_pos k2] at h
     rw [w64_in (by omega) (by omega)]; exact h
    ·rw [if_neg k2,if_neg k1] at h
     refine rnum _ _ _ (by omega) (by omega) (rlast _ _ ?_)
     have hok:okD y a 1:=⟨ey.1,ey.2,by omega,by omega,by omega,by have:=dim_bd y a; omega⟩
     have hv:Vld y a 1:=⟨ey.1,ey.2,by omega,by omega,by omega,by have:=dim_bd y a; omega⟩
     have hnr:=num_range hv
     have hdb:=dim_bd y a
     rw [if_pos hok,if_pos ⟨ey.1,ey.2,by omega,by omega⟩]
     refine rdayLoop _ _ _ _ _ ((c - wk (num y a 1)+7) % 7) rfl (by omega) (by omega) hdb (by omega) _ _ ?_
     refine cast (congrArg (fun z=>K z true) ?_) h
     unfold offW
     have hr6:0≤(c - wk (num y a 1)+7) % 7∧(c - wk (num y a 1)+7) % 7≤6:=by omega
     generalize (c - wk (num y a 1)+7) % 7=r at hr6
     generalize num y a 1=n
     generalize dim y a=q at hdb
     unfold atW manyW hits
     simp only []
     have hB':b=1∨b=2∨b=3∨b=4∨b=5:=by omega
     rcases hB' with rfl | rfl | rfl | rfl | rfl
     all_goals (repeat' split) <;> omega
  ·rw [if_neg (fun h=>ey h.1),decide_eq_false (fun h=>ey h.1)] at h
   have:¬ okD y 1 1:=fun h=>ey (h1.1 h)
   rw [decide_eq_false this]
   exact ifT rfl h
 ·rw [if_neg (fun h=>e h.2),decide_eq_false (fun h=>e h.2)] at h
  exact ifT (by simpa using e) h
theorem rruleAtR (r:Ru) (y:Int) {K} (h:if (1≤y∧y≤9999)∧r.ok=true then K (r.at y) true else K 0 false):Xq2l (tupRu r) y K:=by
 unfold Xq2l Yq2l
 refine rruleDay _ _ _ _ _ _ ?_
 simp only [decide_eq_true_eq,lt]
 by_cases e:(1≤y∧y≤9999)∧rightR r.k r.a r.b r.c r.x=true
 ·have e':(1≤y∧y≤9999)∧r.ok=true:=e
  rw [if_pos e'] at h
  rw [if_pos e,decide_eq_true e]
  refine ifF (by simp) ?_
  obtain ⟨hx,hr⟩:=(right_iff _ _ _ _ _).1 e.2
  have hf:=fst_bd e.1.1 e.1.2
  have hf2:=fst_succ y
  have hb:=ruleDay_bd e.1 e.2
  unfold Ru.at at h
  rw [w64_in (n:=86400 * ruleDay r.k r.a r.b r.c y) (by omega) (by omega),w64_in (by omega) (by omega),Int.mul_comm]
  exact h
 ·have e':¬ ((1≤y∧y≤9999)∧r.ok=true):=e
  rw [if_neg e'] at h
  rw [decide_eq_false e]
  exact ifT rfl h
end Go.Proofs.YtbnpclndiichcaaGreatDoor
end
section
set_option linter.unusedVariables false
set_option linter.unusedSimpArgs false
namespace Go.Proofs.YtbnpclndiichcaaGreatDoor
open Go Go.Proofs.YtbnpclndiichcaaGreatDoor.Eng Go.Proofs.YtbnpclndiichcaaGreatDoor.Pl
theorem rabbr (l:List UInt8) (hl:l.length≤140737488351232) {K} (h:K (abbrL l)):Xq1b (S l) K:=by
 unfold Xq1b Yq1b
 have hn:=nl_le badC l
 refine lp_at (fun j:Nat=>((S l,false,(j:Int),()),())) (nl badC l) rfl fun j hj k hk=>?_
 unfold Lq1b_0
 simp only [decide_eq_true_eq,ge_iff_le,gt_iff_lt,bne_iff_ne,ne_eq,not_true]
 by_cases hlt:j < nl badC l
 ·have hjl:j < l.length:=by omega
  have hg:badC l[j]=false:=(nl_spec badC l j hjl).1 hlt
  have hk':k ((S l,false,w64 ((j:Int)+1),()),()):=by
   rw [w64_in (by omega) (by omega)]
   exact hk hlt
  simp only [S_size,Int.toNat_natCast,bAt_get l j hjl]
  unfold badC at hg
  simp at hg
  refine ifT (by omega) (ifT (by omega) ?_)
  repeat' (first | exact hk' | refine ifC (fun _=>?_) (fun _=>?_))
  all_goals (exfalso; omega)
 ·have ej:j=nl badC l:=by omega
  by_cases hjl:j < l.length
  ·have hb:badC l[j]=true:=(nl_spec badC l j hjl).2 ej
   have hK:K false:=by
    have:abbrL l=false:=by
     unfold abbrL
     rw [show l.any badC=true by rw [nl_any]; exact decide_eq_true (by omega)]
     simp
    rw [← this]; exact h
   simp only [S_size,Int.toNat_natCast,bAt_get l j hjl]
   unfold badC at hb
   simp at hb
   refine ifT (by omega) (ifT (by omega) ?_)
   repeat' (first | exact hK | refine ifC (fun _=>?_) (fun _=>?_))
   all_goals (exfalso; omega)
  ·simp only [S_size]
   refine ifF (by omega) ?_
   have hany:l.any badC=false:=by rw [nl_any]; exact decide_eq_false (by omega)
   unfold abbrL at h
   rw [hany] at h
   refine ifC (fun h1=>?_) fun h1=>?_
   ·refine cast (congrArg K ?_) h
    apply Bool.eq_iff_iff.2
    simp
    omega
   ·refine cast (congrArg K ?_) h
    apply Bool.eq_iff_iff.2
    simp
    omega
theorem rkind (o:Int) (d:Bool) (l:List UInt8) (hl:l.length≤140737488351232) (w:Bool) {K} (h:K (kindR o d l w)):Xq1r (o,d,S l,()) w K:=by
 unfold Xq1r Yq1r
 refine rabbr l hl ?_
 unfold kindR at h
 simp only [ge_iff_le,decide_eq_true_eq,beq_iff_eq]
 by_cases e1:abbrL l=true
 ·refine ifT e1 ?_
  by_cases e2:d=w
  ·refine ifT e2 ?_
   simp only [e1,e2,beq_self_eq_true,Bool.true_and] at h
   refine ifC (fun e3=>cast (congrArg K ?_) h) fun e3=>cast (congrArg K ?_) h
   ·simp [e3]
   ·simp [e3]
  ·exact ifF e2 (cast (congrArg K (by simp [e2])) h)
 ·exact ifF e1 (cast (congrArg K (by simp [e1])) h)
theorem rfootRight (f:Ft) (h1:f.sa.length≤140737488351232) (h2:f.wa.length≤140737488351232) {K} (h:K f.ok):Xq0v (tupFt f) K:=by
 unfold Xq0v Yq0v
 unfold Ft.ok at h
 by_cases eh:f.has=true
 ·rw [if_pos eh] at h
  refine ifF (by simp [eh]) (rruleRight _ _ _ _ _ (rruleRight _ _ _ _ _ ?_))
  have fin:∀ z:Bool,z=(kindR f.so f.sd f.sa false && (kindR f.wo f.wd f.wa true && f.fr.ok && f.to.ok))→K z:=fun z hz=>by rw [hz]; exact h
  by_cases e3:f.fr.ok=true
  ·refine ifT e3 ?_
   by_cases e4:f.to.ok=true
   ·refine ifT e4 (rkind _ _ _ h1 _ ?_)
    by_cases e1:kindR f.so f.sd f.sa false=true
    ·exact ifT e1 (rkind _ _ _ h2 _ (fin _ (by simp [e1,e3,e4])))
    ·exact ifF e1 (fin _ (by simp [e1]))
   ·exact ifF e4 (fin _ (by simp [e4]))
  ·exact ifF e3 (fin _ (by simp [e3]))
 ·rw [if_neg eh] at h
  refine ifT (by simpa using eh) (rkind _ _ _ h1 _ ?_)
  have key:∀ z:Bool,(z=true↔f.bare)→kindR f.so f.sd f.sa false=true→K z:=fun z hz e=>by
   rw [e,Bool.true_and] at h
   exact cast (congrArg K (Bool.eq_iff_iff.2 (decide_eq_true_iff.trans hz.symm))) h
  by_cases e1:kindR f.so f.sd f.sa false=true
  ·refine ifT e1 ?_
   simp only [lt]
   have e0:(ByteArray.mk #[]).toList=[]:=S_toList []
   refine ifC (fun c1=>ifC (fun c2=>key _ ?_ e1) fun c2=>key _ ?_ e1) fun c1=>key _ ?_ e1
   ·unfold Ft.bare
    simp [S_toList] at c1 c2 ⊢
    constructor <;> intro hh <;> simp [hh,c1,c2]
   ·unfold Ft.bare
    simp [S_toList] at c1 c2 ⊢
    intro _ _ _ q1 q2 q3 q4 q5
    exact absurd q5 (c2 q1 q2 q3 q4)
   ·unfold Ft.bare
    simp [S_toList] at c1 ⊢
    intro q1 q2 q3
    exact absurd q3 (c1 q1 q2)
  ·exact ifF e1 (cast (congrArg K (by simp [e1])) h)
end Go.Proofs.YtbnpclndiichcaaGreatDoor
end
section
set_option linter.unusedVariables false
set_option linter.unusedSimpArgs false
namespace Go.Proofs.YtbnpclndiichcaaGreatDoor
open Go Go.Proofs.YtbnpclndiichcaaGreatDoor.Eng Go.Proofs.YtbnpclndiichcaaGreatDoor.Pl
theorem rletter (c:UInt8) {K} (h:K (letC c)):Xq0l (c.toNat:Int) K:=by
 unfold Xq0l Yq0l
 simp only [decide_eq_true_eq,ge_iff_le]
 unfold letC at h
 repeat' (first | refine ifT (by omega) ?_ | refine ifF (by omega) ?_ | refine ifC (fun _=>?_) (fun _=>?_))
 all_goals (refine cast (congrArg K ?_) h; apply Bool.eq_iff_iff.2; simp; omega)
theorem rcut (l:List UInt8) (c:UInt8) (hl:l.length≤140737488351232) {K} (h:K (S (splitL c l).1) (S (splitL c l).2.1) (splitL c l).2.2):Xq2d (S l) (S [c]) K:=by
 unfold Xq2d Yq2d
 have hn:=nl_le (· == c) l
 refine lp_at (fun j:Nat=>((S l,S [c],ByteArray.mk #[],ByteArray.mk #[],false,(j:Int),()),())) (nl (· == c) l) rfl fun j hj k hk=>?_
 unfold Lq2d_0
 unfold splitL at h
 simp only [decide_eq_true_eq,S_size,S_extract,S_toList,List.length_singleton]
 rw [w64_in (n:=(j:Int)+((1:Nat):Int)) (by omega) (by omega)]
 by_cases hjl:j < l.length
 ·refine ifT (by omega) (ifT (by simp) (ifT (by omega) (ifT (by omega) ?_)))
  have e1:Int.toNat ((j:Int)+((1:Nat):Int))=j+1:=by omega
  have e2:(l.drop j).take (j+1 - j)=[l[j]]:=by
   rw [List.drop_eq_getElem_cons hjl,show j+1 - j=1 by omega]; rfl
  simp only [lt,e1,Int.toNat_natCast,e2,List.drop_zero,Nat.sub_zero,take_all]
  by_cases hlt:j < nl (· == c) l
  ·have hg:=(nl_spec (· == c) l j hjl).1 hlt
   refine ifF (by simpa using hg) ?_
   rw [w64_in (n:=(j:Int)+1) (by omega) (by omega)]
   exact hk hlt
  ·have hg:=(nl_spec (· == c) l j hjl).2 (by omega)
   have ej:nl (· == c) l=j:=by omega
   rw [ej,if_pos hjl] at h
   refine ifT (by simpa using hg) (ifT (by omega) (ifT (by omega) (ifT (by omega) (ifT (by omega) h))))
 ·rw [if_neg (by omega)] at h
  exact ifF (by omega) h
theorem rname (l:List UInt8) (hl:l.length≤140737488351232) {K} (h:K (S (nameP l).1) (S (nameP l).2.2) (nameP l).2.1):Xq1z (S l) K:=by
 unfold Xq1z Yq1z
 have hn:=nl_le (fun c=>!letC c) l
 have key:(l.head? = some 60→False)→Eng.lp (Lq1z_0 Xq0l Xq1b K) ((S l,ByteArray.mk #[],ByteArray.mk #[],false,(0:Int),()),()):=by
  intro h60
  unfold nameP at h
  rw [if_neg h60] at h
  refine lp_at (fun j:Nat=>((S l,ByteArray.mk #[],ByteArray.mk #[],false,(j:Int),()),())) (nl (fun c=>!letC c) l) rfl fun j hj k hk=>?_
  unfold Lq1z_0
  simp only [decide_eq_true_eq]
  by_cases hjl:j < l.length
  ·simp only [S_size,S_extract,Int.toNat_natCast,bAt_get l j hjl,List.drop_zero,Nat.sub_zero,take_all]
   refine ifT (by omega) (ifT (by omega) (rletter _ ?_))
   by_cases hlt:j < nl (fun c=>!letC c) l
   ·have hg:=(nl_spec (fun c=>!letC c) l j hjl).1 hlt
    refine ifT (by simpa using hg) ?_
    rw [w64_in (by omega) (by omega)]
    exact hk hlt
   ·have hg:=(nl_spec (fun c=>!letC c) l j hjl).2 (by omega)
    have ej:nl (fun c=>!letC c) l=j:=by omega
    rw [ej] at h
    refine ifF (by simpa using hg) (ifT (by omega) (ifT (by omega) (rabbr _ (by rw [List.length_take]; omega) (ifT (by omega) (ifT (by omega) (ifT (by omega) (ifT (by omega) h)))))))
  ·simp only [S_size,S_extract,Int.toNat_natCast,List.drop_zero,Nat.sub_zero,take_all]
   have ej:nl (fun c=>!letC c) l=j:=by omega
   rw [ej] at h
   exact ifF (by omega) (ifT (by omega) (ifT (by omega) (rabbr _ (by rw [List.length_take]; omega) (ifT (by omega) (ifT (by omega) (ifT (by omega) (ifT (by omega) h)))))))
 cases l with
 | nil=>exact ifF (by decide) (key (by simp))
 | cons c r =>
  have hs:(↑(ByteArray.size (S (c :: r))):Int)=(r.length:Int)+1:=by rw [S_size]; rfl
  rw [drop1,bAt0,hs]
  simp only [decide_eq_true_eq,gt_iff_lt,beq_iff_eq]
  simp only [List.length_cons] at hl
  refine ifT (by omega) (ifT (by omega) (ifC (fun e=>?_) fun e=>?_))
  ·have:c=60:=u8_of e
   subst this
   have e0:nameP (60 :: r)=((splitL 62 r).1,(splitL 62 r).2.2 && abbrL (splitL 62 r).1,(splitL 62 r).2.1):=by
    exact if_pos rfl
   rw [e0] at h
   have hle:(splitL 62 r).1.length≤r.length:=by
    unfold splitL; split
    ·rw [List.length_take]; omega
    ·exact Nat.le_refl _
   refine ifT (by omega) (ifT (by omega) (rcut r 62 (by omega) (rabbr _ (by omega) ?_)))
   by_cases e2:(splitL 62 r).2.2=true
   ·rw [e2,Bool.true_and] at h
    exact ifT e2 h
   ·rw [Bool.eq_false_iff.2 e2,Bool.false_and] at h
    exact ifF e2 h
  ·exact key fun h=>e (by simp at h; rw [h]; rfl)
theorem rchecked (f:Ft) (h1:f.sa.length≤140737488351232) (h2:f.wa.length≤140737488351232) {K} (h:K (tupFt f.chk.1) f.chk.2):Xq0d (tupFt f) K:=by
 unfold Xq0d Yq0d
 refine rfootRight f h1 h2 ?_
 unfold Ft.chk at h
 by_cases e:f.ok=true
 ·rw [if_pos e] at h
  exact ifF (by simp [e]) h
 ·rw [if_neg e] at h
  exact ifT (by simpa using e) h
theorem time_same (l:List UInt8) (h:¬ (timeL l).2.2=true):(timeL l).2.1=l:=by
 obtain ⟨j,_,e,_,_,_,h0⟩:=time_drop l
 rw [e,(h0 (by simpa using h)).2]; rfl
theorem rfootSpan (f:Ft) (y:Int) (h1:f.sa.length≤140737488351232) (h2:f.wa.length≤140737488351232) {K} (h:∀ a b ok,(f.spans y∧a=f.from' y∧b=f.to' y∧ok=true)∨(¬ f.spans y∧a=0∧b=0∧ok=false)→K a b ok):Xq1t (tupFt f) y K:=by
 unfold Xq1t Yq1t
 refine rfootRight f h1 h2 ?_
 by_cases e:f.ok=true
 ·refine ifF (by simp [e]) ?_
  by_cases eh:f.has=true
  ·refine ifF (by simp [eh]) ?_
   have e':=e
   unfold Ft.ok at e'
   rw [if_pos eh,Bool.and_eq_true,Bool.and_eq_true,Bool.and_eq_true] at e'
   obtain ⟨e0,⟨e1,e2⟩,e3⟩:=e'
   obtain ⟨k1,k2,k3,k4⟩:=kind_iff.1 e0
   obtain ⟨j1,j2,j3,j4⟩:=kind_iff.1 e1
   have r1:=(right_iff _ _ _ _ _).1 e2
   have r2:=(right_iff _ _ _ _ _).1 e3
   by_cases ey:1≤y∧y≤9999
   ·have hsp:f.spans y:=⟨eh,e,ey.1,ey.2⟩
    have d1:=ruleDay_bd ey e2
    have d2:=ruleDay_bd ey e3
    have hf:=fst_bd ey.1 ey.2
    have hf2:=fst_succ y
    refine rruleAtR f.fr y (ifT ⟨ey,e2⟩ (rruleAtR f.to y (ifT ⟨ey,e3⟩ (ifF (by simp) ?_))))
    refine h _ _ _ (.inl ⟨hsp,?_,?_,rfl⟩)
    ·show w64 (f.fr.at y - f.so)=_
     unfold Ft.from'
     unfold Ru.at
     rw [w64_in (by omega) (by omega)]
    ·show w64 (f.to.at y - f.wo)=_
     unfold Ft.to'
     unfold Ru.at
     rw [w64_in (by omega) (by omega)]
   ·exact rruleAtR f.fr y (ifF (fun h=>ey h.1) (rruleAtR f.to y (ifF (fun h=>ey h.1) (ifT rfl (h _ _ _ (.inr ⟨fun h=>ey ⟨h.2.2.1,h.2.2.2⟩,rfl,rfl,rfl⟩))))))
  ·exact ifT (by simpa using eh) (h _ _ _ (.inr ⟨fun h=>eh h.1,rfl,rfl,rfl⟩))
 ·exact ifT (by simpa using e) (h _ _ _ (.inr ⟨fun h=>e h.2.1,rfl,rfl,rfl⟩))
theorem rfootLookup (f:Ft) (p:Int) (hp:i64 p) (ho:i64 f.so) (h1:f.sa.length≤140737488351232) (h2:f.wa.length≤140737488351232) {K} (h:if f.sum p then K (f.wo,f.wd,S f.wa,()) else K (f.so,f.sd,S f.sa,())):Xq0q (tupFt f) p K:=by
 unfold Xq0q Yq0q
 refine radd _ _ hp ho ?_
 have std:¬ f.sum p→K (f.so,f.sd,S f.sa,()):=fun hn=>by rw [if_neg hn] at h; exact h
 have dst:f.sum p→K (f.wo,f.wd,S f.wa,()):=fun hn=>by rw [if_pos hn] at h; exact h
 unfold i64 at hp ho
 have rest:∀ (n:Int) (ok:Bool),i64 n→((ok=true∧n=p+f.so)∨(ok=false∧¬ f.sum p))→(fun (r2:Int) (r3:Bool)=>Xq2j r2 86400 (fun r4 r5 r6=>Xq1u r4 (fun r7 r8 r9 r10=>Xq1t (tupFt f) r7 (fun r11 r12 r13 =>
   if (!r3)=true then K (f.so,f.sd,S f.sa,()) else if (!r10)=true then K (f.so,f.sd,S f.sa,()) else if (!r13)=true then K (f.so,f.sd,S f.sa,()) else
    if decide (r11 < r12)=true then
     (if decide (p≥r11)=true then (if decide (p < r12)=true then K (f.wo,f.wd,S f.wa,()) else if decide (r11≥r12)=true then (if decide (p≥r11)=true then K (f.wo,f.wd,S f.wa,()) else if decide (p < r12)=true then K (f.wo,f.wd,S f.wa,()) else K (f.so,f.sd,S f.sa,())) else K (f.so,f.sd,S f.sa,()))
      else if decide (r11≥r12)=true then (if decide (p≥r11)=true then K (f.wo,f.wd,S f.wa,()) else if decide (p < r12)=true then K (f.wo,f.wd,S f.wa,()) else K (f.so,f.sd,S f.sa,())) else K (f.so,f.sd,S f.sa,()))
    else if decide (r11≥r12)=true then (if decide (p≥r11)=true then K (f.wo,f.wd,S f.wa,()) else if decide (p < r12)=true then K (f.wo,f.wd,S f.wa,()) else K (f.so,f.sd,S f.sa,())) else K (f.so,f.sd,S f.sa,()))))) n ok:=by
  intro n ok hn hok
  unfold i64 at hn
  refine rdiv _ _ (by omega) (by omega) (by omega) (by omega) (rdate _ ?_)
  by_cases ed:-719162≤n / 86400∧n / 86400≤2932896
  ·refine ifT ed (rfootSpan f _ h1 h2 fun a b is hsp=>?_)
   rcases hok with ⟨rfl,rfl⟩ | ⟨rfl,hno⟩
   ·refine ifF (by simp) (ifF (by simp) ?_)
    rcases hsp with ⟨es,rfl,rfl,rfl⟩ | ⟨es,rfl,rfl,rfl⟩
    ·refine ifF (by simp) ?_
     have hs:f.sum p↔((f.from' (yearP ((p+f.so) / 86400))≤p∧p < f.to' (yearP ((p+f.so) / 86400)))∨(f.to' (yearP ((p+f.so) / 86400))≤f.from' (yearP ((p+f.so) / 86400))∧(f.from' (yearP ((p+f.so) / 86400))≤p∨p < f.to' (yearP ((p+f.so) / 86400))))) :=
      ⟨fun h=>h.2.2,fun h=>⟨ed,es,h⟩⟩
     simp only [decide_eq_true_eq,ge_iff_le]
     generalize f.from' (yearP ((p+f.so) / 86400))=a at *
     generalize f.to' (yearP ((p+f.so) / 86400))=b at *
     repeat' (first | refine ifC (fun _=>?_) (fun _=>?_) | (refine dst (hs.2 ?_); omega) | (refine std (fun h=>?_); have:=hs.1 h; omega))
    ·exact ifT (by simp) (std fun h=>es h.2.1)
   ·exact ifT (by simp) (std hno)
  ·refine ifF ed (rfootSpan f _ h1 h2 fun a b is hsp=>?_)
   have hno:¬ f.sum p:=by
    rcases hok with ⟨_,rfl⟩ | ⟨_,hno⟩
    ·exact fun h=>ed h.1
    ·exact hno
   exact ifC (fun _=>std hno) fun _=>ifT (by simp) (std hno)
 by_cases e:-9223372036854775808≤p+f.so∧p+f.so≤9223372036854775807
 ·exact ifT e (rest _ _ e (.inl ⟨rfl,rfl⟩))
 ·exact ifF e (rest _ _ ⟨by omega,by omega⟩ (.inr ⟨rfl,fun h=>e (by have:=h.1; unfold inDays at this; omega)⟩))
end Go.Proofs.YtbnpclndiichcaaGreatDoor
end
section
set_option linter.unusedVariables false
set_option linter.unusedSimpArgs false
namespace Go.Proofs.YtbnpclndiichcaaGreatDoor
open Go Go.Proofs.YtbnpclndiichcaaGreatDoor.Eng Go.Proofs.YtbnpclndiichcaaGreatDoor.Pl
theorem rule_cons (r:List UInt8):ruleP (44 :: r)=⟨(parseL r).2.2.2.2.2.2 && true,(parseL r).2.2.2.2.2.1,⟨(parseL r).1,(parseL r).2.1,(parseL r).2.2.1,(parseL r).2.2.2.1,(parseL r).2.2.2.2.1⟩⟩:=rfl
theorem rule_no (l:List UInt8) (h:l.head?≠some 44):(ruleP l).ok=false:=by
 unfold ruleP cutP
 rw [if_neg h]
 simp
theorem parse_len (l:List UInt8):(parseL l).2.2.2.2.2.1.length≤l.length:=by
 cases e:(parseL l).2.2.2.2.2.2
 ·rw [parse_bad _ e]; exact Nat.le_refl _
 ·obtain ⟨_,j,_,h1,h2⟩:=parse_good _ e
  rw [h2,List.length_drop]; omega
theorem rfootRules (so:Int) (sa:List UInt8) (wo:Int) (wa:List UInt8) (l:List UInt8) (hl:l.length≤140737488351232) (h1:sa.length≤140737488351232) (h2:wa.length≤140737488351232) {K:Int×Bool×ByteArray×Int×Bool×ByteArray×Bool×Int×Int×Int×Int×Int×Int×Int×Int×Int×Int×Unit→Bool→Prop}
  (hz:((ruleP l).ok=true→(ruleP (ruleP l).rest).ok=true→(ruleP (ruleP l).rest).rest=[]→False)→K ((0:Int),false,ByteArray.mk #[],(0:Int),false,ByteArray.mk #[],false,(0:Int),(0:Int),(0:Int),(0:Int),(0:Int),(0:Int),(0:Int),(0:Int),(0:Int),(0:Int),()) false)
  (hk:(ruleP l).ok=true→(ruleP (ruleP l).rest).ok=true→(ruleP (ruleP l).rest).rest=[]→K (tupFt (Ft.chk ⟨so,false,sa,wo,true,wa,true,(ruleP l).r,(ruleP (ruleP l).rest).r⟩).1) (Ft.chk ⟨so,false,sa,wo,true,wa,true,(ruleP l).r,(ruleP (ruleP l).rest).r⟩).2) :
  (if ((↑(ByteArray.size (S l)):Int) == (0:Int))=true then K ((0:Int),false,ByteArray.mk #[],(0:Int),false,ByteArray.mk #[],false,(0:Int),(0:Int),(0:Int),(0:Int),(0:Int),(0:Int),(0:Int),(0:Int),(0:Int),(0:Int),()) false else if (0:Int)≤(0:Int)∧(0:Int) < (↑(ByteArray.size (S l)):Int) then
   (if (Eng.bAt (S l) (0:Nat) != (44:Int))=true then K ((0:Int),false,ByteArray.mk #[],(0:Int),false,ByteArray.mk #[],false,(0:Int),(0:Int),(0:Int),(0:Int),(0:Int),(0:Int),(0:Int),(0:Int),(0:Int),(0:Int),()) false else if (0:Int)≤(↑(ByteArray.size (S l)):Int)∧(↑(ByteArray.size (S l)):Int)≤(↑(ByteArray.size (S l)):Int) then
    (if (0:Int)≤(1:Int)∧(1:Int)≤(↑(ByteArray.size (S l)):Int) then
     Xq1i (ByteArray.extract (S l) (1:Nat) (Int.toNat (↑(ByteArray.size (S l)):Int))) (fun r16 r17 r18 =>
      (if (!r18)=true then K ((0:Int),false,ByteArray.mk #[],(0:Int),false,ByteArray.mk #[],false,(0:Int),(0:Int),(0:Int),(0:Int),(0:Int),(0:Int),(0:Int),(0:Int),(0:Int),(0:Int),()) false else if ((↑(ByteArray.size r17):Int) == (0:Int))=true then K ((0:Int),false,ByteArray.mk #[],(0:Int),false,ByteArray.mk #[],false,(0:Int),(0:Int),(0:Int),(0:Int),(0:Int),(0:Int),(0:Int),(0:Int),(0:Int),(0:Int),()) false else if (0:Int)≤(0:Int)∧(0:Int) < (↑(ByteArray.size r17):Int) then
       (if (Eng.bAt r17 (0:Nat) != (44:Int))=true then K ((0:Int),false,ByteArray.mk #[],(0:Int),false,ByteArray.mk #[],false,(0:Int),(0:Int),(0:Int),(0:Int),(0:Int),(0:Int),(0:Int),(0:Int),(0:Int),(0:Int),()) false else if (0:Int)≤(↑(ByteArray.size r17):Int)∧(↑(ByteArray.size r17):Int)≤(↑(ByteArray.size r17):Int) then
        (if (0:Int)≤(1:Int)∧(1:Int)≤(↑(ByteArray.size r17):Int) then
         Xq1i (ByteArray.extract r17 (1:Nat) (Int.toNat (↑(ByteArray.size r17):Int))) (fun r19 r20 r21 =>
          (if (!r21)=true then K ((0:Int),false,ByteArray.mk #[],(0:Int),false,ByteArray.mk #[],false,(0:Int),(0:Int),(0:Int),(0:Int),(0:Int),(0:Int),(0:Int),(0:Int),(0:Int),(0:Int),()) false else if (!ByteArray.toList r20 == ByteArray.toList (ByteArray.mk #[]))=true then K ((0:Int),false,ByteArray.mk #[],(0:Int),false,ByteArray.mk #[],false,(0:Int),(0:Int),(0:Int),(0:Int),(0:Int),(0:Int),(0:Int),(0:Int),(0:Int),(0:Int),()) false else
           Xq0d (so,false,S sa,wo,true,S wa,true,r16.1,r16.2.1,r16.2.2.1,r16.2.2.2.1,r16.2.2.2.2.1,r19) (fun r22 r23=>K r22 r23)))
         else False) else False) else False))
     else False) else False) else False):=by
 cases l with
 | nil=>exact ifT rfl (hz fun h=>by rw [rule_no [] (by simp)] at h; cases h)
 | cons c r =>
  have hs:(↑(ByteArray.size (S (c :: r))):Int)=(r.length:Int)+1:=by rw [S_size]; rfl
  rw [drop1,bAt0,hs]
  simp only [List.length_cons] at hl
  simp only [beq_iff_eq,bne_iff_ne,ne_eq]
  refine ifF (by omega) (ifT (by omega) (ifC (fun e=>hz fun h=>?_) fun e=>?_))
  ·rw [rule_no (c :: r) (fun h=>by simp at h; subst h; exact e rfl)] at h; cases h
  ·have:c=44:=u8_of (d:=44) (Classical.not_not.1 e)
   subst this
   rw [rule_cons] at hz hk
   have hp:=parse_len r
   refine ifT (by omega) (ifT (by omega) (rruleParse r (by omega) ?_))
   generalize parseL r=q at *
   obtain ⟨q1,q2,q3,q4,q5,q6,q7⟩:=q
   simp only [Bool.and_true] at hz hk hp ⊢
   cases q7
   ·exact ifT rfl (hz fun h=>by cases h)
   ·refine ifF (by simp) ?_
    cases q6 with
    | nil=>exact ifT rfl (hz fun _ h=>by rw [rule_no [] (by simp)] at h; cases h)
    | cons d t =>
     have hs:(↑(ByteArray.size (S (d :: t))):Int)=(t.length:Int)+1:=by rw [S_size]; rfl
     rw [drop1,bAt0,hs]
     simp only [List.length_cons] at hp
     refine ifF (by omega) (ifT (by omega) (ifC (fun e=>hz fun _ h=>?_) fun e=>?_))
     ·rw [rule_no (d :: t) (fun h=>by simp at h; subst h; exact e rfl)] at h; cases h
     ·have:d=44:=u8_of (d:=44) (Classical.not_not.1 e)
      subst this
      rw [rule_cons] at hz hk
      refine ifT (by omega) (ifT (by omega) (rruleParse t (by omega) ?_))
      generalize parseL t=p at *
      obtain ⟨p1,p2,p3,p4,p5,p6,p7⟩:=p
      simp only [Bool.and_true] at hz hk ⊢
      cases p7
      ·exact ifT rfl (hz fun _ h=>by cases h)
      ·refine ifF (by simp) ?_
       rw [S_toList]
       by_cases e6:p6=[]
       ·subst e6
        have e0:(ByteArray.mk #[]).toList=[]:=S_toList []
        rw [e0]
        refine ifF (by simp) ?_
        exact rchecked ⟨so,false,sa,wo,true,wa,true,⟨q1,q2,q3,q4,q5⟩,⟨p1,p2,p3,p4,p5⟩⟩ h1 h2 (hk (by trivial) (by trivial) (by trivial))
       ·have e0:(ByteArray.mk #[]).toList=[]:=S_toList []
        rw [e0]
        exact ifT (by simp [e6]) (hz fun _ _ h=>e6 h)
theorem rfootParse (l:List UInt8) (hl:l.length≤140737488351232) {K} (h:K (tupFt (Ft.parse l).1) (Ft.parse l).2):Xq0z (S l) K:=by
 unfold Xq0z Yq0z
 have hn:=name_len l
 have ht:=time_bd (nameP l).2.2
 refine rname l hl (rtime _ (by omega) ?_)
 rw [w64_in (n:=0 - (timeL (nameP l).2.2).1) (by omega) (by omega),Int.zero_sub]
 unfold Ft.parse at h
 have hu:usualP l=⟨(nameP l).2.1 && (timeL (nameP l).2.2).2.2,(timeL (nameP l).2.2).2.1,-(timeL (nameP l).2.2).1,(nameP l).1⟩:=rfl
 rw [hu] at h
 simp only at h
 by_cases e1:(nameP l).2.1=true
 ·refine ifF (by simp [e1]) ?_
  by_cases e2:(timeL (nameP l).2.2).2.2=true
  ·rw [if_pos (by simp [e1,e2])] at h
   refine ifF (by simp [e2]) ?_
   clear hu
   generalize (timeL (nameP l).2.2).1=n at h ht ⊢
   generalize (timeL (nameP l).2.2).2.1=rest at h ht ⊢
   have e0:(ByteArray.mk #[]).toList=[]:=S_toList []
   by_cases e3:rest=[]
   ·rw [if_pos e3] at h
    refine ifT (by rw [S_toList,e0]; simp [e3]) (rchecked ⟨-n,false,(nameP l).1,0,false,[],false,.z,.z⟩ (by simp only; omega) (by simp) h)
   ·rw [if_neg e3] at h
    have hn2:=name_len rest
    have ht2:=time_bd (nameP rest).2.2
    refine ifF (by rw [S_toList,e0]; simp [e3]) (rname rest (by omega) ?_)
    rw [w64_in (n:=-n+3600) (by omega) (by omega)]
    refine rtime _ (by omega) ?_
    by_cases e5:(timeL (nameP rest).2.2).2.2=true
    ·have hs:summerP (-n) rest=⟨(nameP rest).2.1,(timeL (nameP rest).2.2).2.1,-(timeL (nameP rest).2.2).1,(nameP rest).1⟩:=if_pos e5
     rw [hs] at h
     simp only at h
     refine ifT e5 ?_
     by_cases e6:(nameP rest).2.1=true
     ·rw [if_pos e6] at h
      rw [w64_in (n:=0 - (timeL (nameP rest).2.2).1) (by omega) (by omega),Int.zero_sub]
      refine ifF (by simp [e6]) (rfootRules (-n) (nameP l).1 _ (nameP rest).1 _ (by omega) (by omega) (by omega) (fun hz=>?_) fun h1 h2 h3=>?_)
      ·by_cases c1:(ruleP (timeL (nameP rest).2.2).2.1).ok=true
       ·rw [if_pos c1] at h
        by_cases c2:(ruleP (ruleP (timeL (nameP rest).2.2).2.1).rest).ok=true
        ·rw [if_pos c2,if_neg (fun c3=>hz c1 c2 c3)] at h; exact h
        ·rw [if_neg c2] at h; exact h
       ·rw [if_neg c1] at h; exact h
      ·rw [if_pos h1,if_pos h2,if_pos h3] at h; exact h
     ·rw [if_neg e6] at h
      exact ifT (by simpa using e6) h
    ·have hs:summerP (-n) rest=⟨(nameP rest).2.1,(nameP rest).2.2,-n+3600,(nameP rest).1⟩:=if_neg e5
     rw [hs] at h
     simp only at h
     have hsame:=time_same _ e5
     rw [hsame]
     refine ifF e5 ?_
     by_cases e6:(nameP rest).2.1=true
     ·rw [if_pos e6] at h
      refine ifF (by simp [e6]) (rfootRules (-n) (nameP l).1 _ (nameP rest).1 _ (by omega) (by omega) (by omega) (fun hz=>?_) fun h1 h2 h3=>?_)
      ·by_cases c1:(ruleP (nameP rest).2.2).ok=true
       ·rw [if_pos c1] at h
        by_cases c2:(ruleP (ruleP (nameP rest).2.2).rest).ok=true
        ·rw [if_pos c2,if_neg (fun c3=>hz c1 c2 c3)] at h; exact h
        ·rw [if_neg c2] at h; exact h
       ·rw [if_neg c1] at h; exact h
      ·rw [if_pos h1,if_pos h2,if_pos h3] at h; exact h
     ·rw [if_neg e6] at h
      exact ifT (by simpa using e6) h
  ·rw [if_neg (by simp [e2])] at h
   exact ifT (by simpa using e2) h
 ·rw [if_neg (by simp [e1])] at h
  exact ifT (by simpa using e1) h
end Go.Proofs.YtbnpclndiichcaaGreatDoor
end
section
set_option linter.unusedVariables false
set_option linter.unusedSimpArgs false
namespace Go.Proofs.YtbnpclndiichcaaGreatDoor
open Go Go.Proofs.YtbnpclndiichcaaGreatDoor.Eng Go.Proofs.YtbnpclndiichcaaGreatDoor.Pl
set_option maxRecDepth 100000
set_option maxHeartbeats 4000000
def dvN:Nat→Int→Int
 | 0,n=>n
 | j+1,n=>dvN j n / 10
def dgs:Nat→Int→List UInt8
 | 0,_=>[]
 | j+1,n=>UInt8.ofNat (48+(dvN j n % 10).toNat) :: dgs j n
theorem dvN_bd {n:Int} (h0:0≤n) (h1:n≤1000000000):∀ j,0≤dvN j n∧dvN j n≤1000000000
 | 0=>⟨h0,h1⟩
 | j+1=>by have:=dvN_bd h0 h1 j; rw [dvN]; omega
theorem dgs_len (n:Int):∀ j,(dgs j n).length=j
 | 0=>rfl
 | j+1=>by rw [dgs,List.length_cons,dgs_len n j]
theorem pack1 (r:Int) (h0:0≤r) (h1:r≤9):Eng.packB [Eng.V.c (Value.int IntKind.u8 (wu8 (w64 (48+r))))]=S [UInt8.ofNat (48+r.toNat)]:=by
 rw [w64_in (by omega) (by omega),wu8_in (by omega) (by omega)]
 have:(48+r).toNat=48+r.toNat:=by omega
 unfold Eng.packB Eng.byteOf
 simp only [List.map_cons,List.map_nil,this]
theorem rdigits (n:Int) (h0:0≤n) (h1:n≤1000000000) (m:Nat) (hm:m≤10) {K:ByteArray→Prop} (h:K (S (dgs m n))):Xq0j n (m:Int) K:=by
 unfold Xq0j Yq0j
 refine lp_at (fun j=>((dvN j n,(m:Int),ByteArray.mk #[],S (dgs j n),(j:Int),()),())) m rfl fun j hj k hk=>?_
 unfold Lq0j_0
 dsimp only
 have hb:=dvN_bd h0 h1 j
 by_cases e:j < m
 ·have hk:=hk e
  rw [if_pos (decide_eq_true (by omega)),Int.tmod_eq_emod_of_nonneg hb.1,Int.tdiv_eq_ediv_of_nonneg hb.1]
  have hl:=dgs_len n j
  simp only [lt]
  rw [pack1 _ (by omega) (by omega),S_size,S_size,hl,if_neg (by simp; omega),S_append,w64_in (n:=dvN j n / 10) (by omega) (by omega)]
  have e1:w64 ((j:Int)+1)=((j+1:Nat):Int):=by rw [w64_in (by omega) (by omega)]; omega
  rw [e1]
  exact hk
 ·have:j=m:=by omega
  subst this
  rw [if_neg (dneg (by omega))]
  exact h
theorem rdigits4 (n:Int) (h0:0≤n) (h1:n≤1000000000) {K:ByteArray→Prop} (h:K (S (d4 n))):Xq0j n 4 K:=rdigits n h0 h1 4 (by omega) h
theorem rdigits2 (n:Int) (h0:0≤n) (h1:n≤1000000000) {K:ByteArray→Prop} (h:K (S (dd n))):Xq0j n 2 K:=rdigits n h0 h1 2 (by omega) h
theorem d4_len (n:Int):(d4 n).length=4:=rfl
theorem dd_len (n:Int):(dd n).length=2:=rfl
theorem date_bd {n:Int} (h:-719162≤n∧n≤2932896):(1≤yearP n∧yearP n≤9999)∧(1≤monP n∧monP n≤12)∧1≤dayP n∧dayP n≤31:=by
 obtain ⟨⟨v1,v2,v3,v4,v5,v6⟩,_⟩:=num_date h.1 h.2
 have:=dim_bd (yearP n) (monP n)
 omega
theorem rDay04 (n:Int) {K} (h:if -719162≤n∧n≤2932896 then K (S (dayL n)) true else K (S []) false):Xq2c n K:=by
 unfold Xq2c Yq2c
 refine rdate n ?_
 by_cases e:-719162≤n∧n≤2932896
 ·rw [if_pos e] at h ⊢
  obtain ⟨h1,h2,h3⟩:=date_bd e
  rw [if_neg (by simp)]
  refine rdigits4 _ (by omega) (by omega) ?_
  rw [S_size,d4_len,if_neg (by simp)]
  refine rdigits2 _ (by omega) (by omega) ?_
  rw [show ByteArray.mk #[(45:UInt8)]=S [45] from rfl,S_append]
  simp only [S_size,S_append,List.length_append,d4_len,dd_len,List.length_singleton]
  rw [if_neg (by simp)]
  simp only [lt,S_size,S_append,List.length_append,d4_len,dd_len,List.length_singleton]
  rw [if_neg (by simp)]
  refine rdigits2 _ (by omega) (by omega) ?_
  simp only [S_size,S_append,List.length_append,d4_len,dd_len,List.length_singleton]
  rw [if_neg (by simp)]
  exact h
 ·rw [if_neg e] at h ⊢
  rw [if_pos (by rfl)]
  exact h
theorem pack2 (a b:Int) (ha:0≤a∧a≤9) (hb:0≤b∧b≤9):Eng.packB [Eng.V.c (Value.int IntKind.u8 (wu8 (w64 (48+w64 a)))),Eng.V.c (Value.int IntKind.u8 (wu8 (w64 (48+b))))]=S [UInt8.ofNat (48+a.toNat),UInt8.ofNat (48+b.toNat)]:=by
 rw [w64_in (n:=a) (by omega) (by omega),w64_in (n:=48+a) (by omega) (by omega),w64_in (n:=48+b) (by omega) (by omega),wu8_in (by omega) (by omega),wu8_in (by omega) (by omega)]
 have e1:(48+a).toNat=48+a.toNat:=by omega
 have e2:(48+b).toNat=48+b.toNat:=by omega
 unfold Eng.packB Eng.byteOf
 simp only [List.map_cons,List.map_nil,e1,e2]
theorem rtwo24 (n:Int) (h:0≤n∧n≤99) {K} (hk:K (S (pairP n))):Xq2g n K:=by
 unfold Xq2g Yq2g
 simp only [lt]
 rw [Int.tmod_eq_emod_of_nonneg h.1,Int.tdiv_eq_ediv_of_nonneg h.1,pack2 _ _ (by omega) (by omega)]
 rw [(dd_digs h.1 h.2).2.2.2] at hk
 have:(n / 10 % 10).toNat=(n / 10).toNat:=by omega
 unfold dd at hk
 rw [this] at hk
 exact hk
theorem pair_len {n:Int} (h:0≤n∧n≤99):(pairP n).length=2:=by
 rw [(dd_digs h.1 h.2).2.2.2]; rfl
theorem rText24 (c:Cv) (hl:c.ab.length≤100000) {K} (h:K (S (ctextL c).1) (ctextL c).2):Xq1w (tupC c) K:=by
 unfold Xq1w Yq1w
 unfold ctextL at h
 have hok:=@okC_iff c
 show Xq2c c.d _
 refine rDay04 c.d ?_
 have no:¬ okC c=true→K (S []) false:=fun q=>by rw [if_neg q] at h; exact h
 by_cases e1:-719162≤c.d∧c.d≤2932896
 rotate_left
 ·rw [if_neg e1]
  show Xq1b (S c.ab) _
  refine rabbr c.ab (by omega) ?_
  rw [if_pos (by rfl)]
  exact no fun q=>e1 (hok.1 q).1
 rw [if_pos e1]
 show Xq1b (S c.ab) _
 refine rabbr c.ab (by omega) ?_
 rw [if_neg (by simp)]
 cases e6:abbrL c.ab
 ·rw [if_pos (by rfl)]
  exact no fun q=>by rw [(hok.1 q).2.2.2.2.2] at e6; cases e6
 rw [if_neg (by simp)]
 unfold tupC
 dsimp only
 by_cases e2:c.h < 0
 ·rw [if_pos (decide_eq_true e2)]; exact no fun q=>by have:=(hok.1 q).2.1; omega
 rw [if_neg (dneg e2)]
 by_cases e2':c.h > 23
 ·rw [if_pos (decide_eq_true e2')]; exact no fun q=>by have:=(hok.1 q).2.1; omega
 rw [if_neg (dneg e2')]
 by_cases e3:c.m < 0
 ·rw [if_pos (decide_eq_true e3)]; exact no fun q=>by have:=(hok.1 q).2.2.1; omega
 rw [if_neg (dneg e3)]
 by_cases e3':c.m > 59
 ·rw [if_pos (decide_eq_true e3')]; exact no fun q=>by have:=(hok.1 q).2.2.1; omega
 rw [if_neg (dneg e3')]
 by_cases e4:c.s < 0
 ·rw [if_pos (decide_eq_true e4)]; exact no fun q=>by have:=(hok.1 q).2.2.2.1; omega
 rw [if_neg (dneg e4)]
 by_cases e4':c.s > 60
 ·rw [if_pos (decide_eq_true e4')]; exact no fun q=>by have:=(hok.1 q).2.2.2.1; omega
 rw [if_neg (dneg e4')]
 by_cases e5:c.off < -89999
 ·rw [if_pos (decide_eq_true e5)]; exact no fun q=>by have:=(hok.1 q).2.2.2.2.1; omega
 rw [if_neg (dneg e5)]
 by_cases e5':c.off > 93599
 ·rw [if_pos (decide_eq_true e5')]; exact no fun q=>by have:=(hok.1 q).2.2.2.2.1; omega
 rw [if_neg (dneg e5')]
 have ok:okC c=true:=hok.2 ⟨e1,⟨by omega,by omega⟩,⟨by omega,by omega⟩,⟨by omega,by omega⟩,⟨by omega,by omega⟩,e6⟩
 rw [if_pos ok] at h
 have lh:=pair_len (n:=c.h) (by omega)
 have lm:=pair_len (n:=c.m) (by omega)
 have ls:=pair_len (n:=c.s) (by omega)
 have ld:=dayL_len c.d
 rw [S_size,ld,if_neg (by simp)]
 refine rtwo24 c.h (by omega) ?_
 rw [show ByteArray.mk #[(84:UInt8)]=S [84] from rfl,show ByteArray.mk #[(58:UInt8)]=S [58] from rfl,show ByteArray.mk #[(45:UInt8)]=S [45] from rfl,show ByteArray.mk #[(43:UInt8)]=S [43] from rfl,show ByteArray.mk #[(32:UInt8)]=S [32] from rfl]
 simp only [S_size,S_append,List.length_append,List.length_singleton,ld,lh]
 rw [if_neg (by simp)]
 simp only [lt,S_size,S_append,List.length_append,List.length_singleton,ld,lh]
 rw [if_neg (by simp)]
 refine rtwo24 c.m (by omega) ?_
 simp only [S_size,S_append,List.length_append,List.length_singleton,ld,lh,lm]
 rw [if_neg (by simp),if_neg (by simp)]
 refine rtwo24 c.s (by omega) ?_
 simp only [S_size,S_append,List.length_append,List.length_singleton,ld,lh,lm,ls]
 rw [if_neg (by simp)]
 have fin:∀ (l:List UInt8),l=dayL c.d++[84]++pairP c.h++[58]++pairP c.m++[58]++pairP c.s++distB c.off++[32]++c.ab→K (S l) true:=fun l e=>by
  rw [e]
  have e2:dayL c.d++[84]++pairP c.h++[58]++pairP c.m++[58]++pairP c.s++distB c.off++[32]++c.ab=ctextB c:=by
   unfold ctextB; simp
  rw [e2]; exact h
 by_cases neg:c.off < 0
 ·rw [if_pos (decide_eq_true neg),w64_in (n:=0 - c.off) (by omega) (by omega)]
  obtain ⟨n,hn⟩:∃ n:Int,n=0 - c.off:=⟨_,rfl⟩
  have dn:distB c.off=45 :: (pairP (n / 3600)++58 :: (pairP (n / 60 % 60)++(if n % 60≠0 then 58 :: pairP (n % 60) else []))):=by
   unfold distB
   have hh:(if c.off < 0 then -c.off else c.off)=n:=by rw [if_pos neg]; omega
   simp only [hh,if_pos neg]
   try rfl
  rw [dn] at fin
  rw [← hn,Int.tdiv_eq_ediv_of_nonneg (a:=n) (b:=3600) (by omega),Int.tdiv_eq_ediv_of_nonneg (a:=n) (b:=60) (by omega),w64_in (n:=n / 3600) (by omega) (by omega),w64_in (n:=n / 60) (by omega) (by omega)]
  rw [Int.tmod_eq_emod_of_nonneg (a:=n / 60) (by omega),Int.tmod_eq_emod_of_nonneg (a:=n) (by omega)]
  have l1:=pair_len (n:=n / 3600) (by omega)
  have l2:=pair_len (n:=n / 60 % 60) (by omega)
  have l3:=pair_len (n:=n % 60) (by omega)
  rw [if_neg (by simp)]
  refine rtwo24 _ (by omega) ?_
  simp only [S_size,S_append,List.length_append,List.length_singleton,ld,lh,lm,ls,l1]
  rw [if_neg (by simp),if_neg (by simp)]
  refine rtwo24 _ (by omega) ?_
  simp only [S_size,S_append,List.length_append,List.length_singleton,ld,lh,lm,ls,l1,l2]
  rw [if_neg (by simp)]
  by_cases z:n % 60=0
  ·rw [if_neg (by simp [z]),if_neg (by simp),if_neg (by simp; omega)]
   refine fin _ ?_
   rw [if_neg (fun q=>q z)]; simp
  ·rw [if_pos (by simpa using z),if_neg (by simp)]
   refine rtwo24 _ (by omega) ?_
   simp only [S_size,S_append,List.length_append,List.length_singleton,ld,lh,lm,ls,l1,l2,l3]
   rw [if_neg (by simp),if_neg (by simp),if_neg (by simp; omega)]
   refine fin _ ?_
   rw [if_pos z]; simp
 ·rw [if_neg (dneg neg)]
  obtain ⟨n,hn⟩:∃ n:Int,n=c.off:=⟨_,rfl⟩
  have dn:distB c.off=43 :: (pairP (n / 3600)++58 :: (pairP (n / 60 % 60)++(if n % 60≠0 then 58 :: pairP (n % 60) else []))):=by
   unfold distB
   have hh:(if c.off < 0 then -c.off else c.off)=n:=by rw [if_neg neg]; omega
   simp only [hh,if_neg neg]
   try rfl
  rw [dn] at fin
  rw [← hn,Int.tdiv_eq_ediv_of_nonneg (a:=n) (b:=3600) (by omega),Int.tdiv_eq_ediv_of_nonneg (a:=n) (b:=60) (by omega),w64_in (n:=n / 3600) (by omega) (by omega),w64_in (n:=n / 60) (by omega) (by omega)]
  rw [Int.tmod_eq_emod_of_nonneg (a:=n / 60) (by omega),Int.tmod_eq_emod_of_nonneg (a:=n) (by omega)]
  have l1:=pair_len (n:=n / 3600) (by omega)
  have l2:=pair_len (n:=n / 60 % 60) (by omega)
  have l3:=pair_len (n:=n % 60) (by omega)
  rw [if_neg (by simp)]
  refine rtwo24 _ (by omega) ?_
  simp only [S_size,S_append,List.length_append,List.length_singleton,ld,lh,lm,ls,l1]
  rw [if_neg (by simp),if_neg (by simp)]
  refine rtwo24 _ (by omega) ?_
  simp only [S_size,S_append,List.length_append,List.length_singleton,ld,lh,lm,ls,l1,l2]
  rw [if_neg (by simp)]
  by_cases z:n % 60=0
  ·rw [if_neg (by simp [z]),if_neg (by simp),if_neg (by simp; omega)]
   refine fin _ ?_
   rw [if_neg (fun q=>q z)]; simp
  ·rw [if_pos (by simpa using z),if_neg (by simp)]
   refine rtwo24 _ (by omega) ?_
   simp only [S_size,S_append,List.length_append,List.length_singleton,ld,lh,lm,ls,l1,l2,l3]
   rw [if_neg (by simp),if_neg (by simp),if_neg (by simp; omega)]
   refine fin _ ?_
   rw [if_pos z]; simp
end Go.Proofs.YtbnpclndiichcaaGreatDoor
end
section
set_option linter.unusedVariables false
set_option linter.unusedSimpArgs false
namespace Go.Proofs.YtbnpclndiichcaaGreatDoor
open Go Go.Proofs.YtbnpclndiichcaaGreatDoor.Eng Go.Proofs.YtbnpclndiichcaaGreatDoor.Pl
set_option maxRecDepth 100000
set_option maxHeartbeats 4000000
theorem valL_snoc (l:List UInt8) (c:UInt8):valL (l++[c])=10 * valL l+(c.toNat - 48):=by unfold valL; rw [List.foldl_append]; rfl
theorem rNum24 (l:List UInt8) (hl:l.length≤4) {K:Int→Prop} (h:K (numM l)):Xq0p (S l) K:=by
 unfold Xq0p Yq0p
 refine lp_ind (fun x=>l.length - x.1.2.2.2.1.toNat) (fun x=>∃ j:Nat,j≤l.length∧(∀ c∈l.take j,isDig c=true)∧x=((S l,0,(valL (l.take j):Int),(j:Int),()),())) ?_ ⟨0,by omega,by simp,rfl⟩
 rintro x ⟨j,hj,hd,rfl⟩ k hk
 unfold Lq0p_0
 dsimp only
 rw [S_sizeI]
 by_cases e:j < l.length
 ·have hx:0≤(j:Int)∧(j:Int) < (l.length:Int):=by omega
  rw [if_pos (decide_eq_true (by omega)),if_pos hx,Int.toNat_natCast,bAt_get l j e]
  have hc:=(l[j]).toNat_lt
  have no:¬ (48≤(l[j]).toNat∧(l[j]).toNat≤57)→K (-1):=fun q=>by
   unfold numM at h
   rwa [if_neg (fun w=>q (by have:=List.all_eq_true.1 w _ (List.getElem_mem e); unfold isDig at this; simpa using this))] at h
  by_cases c1:((l[j]).toNat:Int) < 48
  ·rw [if_pos (decide_eq_true c1)]; exact no (by omega)
  rw [if_neg (dneg c1),if_pos hx]
  by_cases c2:((l[j]).toNat:Int) > 57
  ·rw [if_pos (decide_eq_true c2)]; exact no (by omega)
  rw [if_neg (dneg c2),if_pos hx]
  simp only [lt]
  have hb:=valL_bd (l.take j) 0 hd
  rw [Nat.zero_add,Nat.one_mul] at hb
  have h4:10 ^ (l.take j).length≤10 ^ 4:=Nat.pow_le_pow_right (by omega) (by rw [List.length_take]; omega)
  have hb':valL (l.take j) < 10000:=Nat.lt_of_lt_of_le hb h4
  have e1:w64 ((j:Int)+1)=((j+1:Nat):Int):=by rw [w64_in (by omega) (by omega)]; omega
  have ht:l.take (j+1)=l.take j++[l[j]]:=List.take_succ_eq_append_getElem e
  have ev:w64 (w64 (10 * (valL (l.take j):Int))+w64 (wu8 (((l[j]).toNat:Int) - 48)))=(valL (l.take (j+1)):Int):=by
   rw [ht,valL_snoc,wu8_in (by omega) (by omega),w64_in (n:=((l[j]).toNat:Int) - 48) (by omega) (by omega),w64_in (n:=10 * (valL (l.take j):Int)) (by omega) (by omega),w64_in (by omega) (by omega)]
   omega
  rw [ev,e1]
  refine hk _ ⟨j+1,e,fun c q=>?_,rfl⟩ (by show l.length - ((j+1:Nat):Int).toNat < l.length - ((j:Nat):Int).toNat; omega)
  rw [ht] at q
  rcases List.mem_append.1 q with q | q
  ·exact hd c q
  ·rw [List.mem_singleton] at q
   rw [q]; unfold isDig; simp; omega
 ·have:j=l.length:=by omega
  subst this
  rw [if_neg (dneg (by omega))]
  rw [List.take_length] at hd ⊢
  rw [numM_dig hd] at h
  exact h
theorem rNumE (l:List UInt8) (a b:Nat) (hb:b - a≤4) {K:Int→Prop} (h:K (numM (slL l a b))):Xq0p (ByteArray.extract (S l) a b) K:=by
 rw [S_extract]
 exact rNum24 _ (Nat.le_trans (slL_len l a b) hb) h
theorem numM2 (l:List UInt8) (a b:Nat) (h:b - a=2):-1≤numM (slL l a b)∧numM (slL l a b)≤99:=by
 have:=numM_bd (slL l a b) 2 (by have:=slL_len l a b; omega) (by decide)
 omega
theorem numM4 (l:List UInt8) (a b:Nat) (h:b - a=4):-1≤numM (slL l a b)∧numM (slL l a b)≤9999:=by
 have:=numM_bd (slL l a b) 4 (by have:=slL_len l a b; omega) (by decide)
 omega
theorem w64_off {a b:Int} (ha:-1≤a∧a≤99) (hb:-1≤b∧b≤99):w64 (w64 (3600 * a)+w64 (60 * b))=3600 * a+60 * b:=by
 rw [w64_in (n:=3600 * a) (by omega) (by omega),w64_in (n:=60 * b) (by omega) (by omega),w64_in (by omega) (by omega)]
theorem cutE (l:List UInt8) (a:Nat):ByteArray.extract (S l) a (Int.toNat (l.length:Int))=S (l.drop a):=by
 rw [Int.toNat_natCast,← S_size l,S_drop]
theorem rParse24 (l:List UInt8) {K:_→Bool→Prop} (h:K (tupC (cparseL l).1) (cparseL l).2):Xq1g (S l) K:=by
 unfold Xq1g Yq1g
 have hno:(cparseL l).2=false→K (tupC cv0) false:=fun q=>by rw [parse_no q,q] at h; exact h
 simp only [S_sizeI]
 by_cases l1:(l.length:Int) < 26
 ·rw [if_pos (decide_eq_true l1)]
  refine hno ?_
  rw [Bool.eq_false_iff]; intro q; have:=(pick_parse q).1; omega
 rw [if_neg (dneg l1)]
 by_cases l2:(l.length:Int) > 60
 ·rw [if_pos (decide_eq_true l2)]
  refine hno ?_
  rw [Bool.eq_false_iff]; intro q; have:=(pick_parse q).1; omega
 rw [if_neg (dneg l2),if_pos (by omega),if_pos (by omega),if_pos (by omega)]
 have hne:l≠[]:=fun q=>by rw [q] at l1; simp at l1
 refine rNumE l 0 4 (by decide) (rNumE l 5 7 (by decide) (rNumE l 8 10 (by decide) ?_))
 have n4:=numM4 l 0 4 rfl
 have n7:=numM2 l 5 7 rfl
 have n10:=numM2 l 8 10 rfl
 refine rnum _ _ _ (by omega) (by omega) ?_
 rw [if_pos (by omega),if_pos (by omega),if_pos (by omega)]
 have fin:∀ c:Cv,c.dst=false→c.ab.length≤1000→((cparseL l).2=true→c=(cparseL l).1)→Xq1w (tupC c) (fun r88 r89=>if (!decide (okD (numM (slL l 0 4)) (numM (slL l 5 7)) (numM (slL l 8 10))))=true then K (0,0,0,0,0,false,ByteArray.mk #[],()) false else if (!ByteArray.toList r88 == ByteArray.toList (S l))=true then K (0,0,0,0,0,false,ByteArray.mk #[],()) false else K (tupC c) true):=fun c hd hl hq=>by
  refine rText24 c (by omega) ?_
  by_cases ok:okD (numM (slL l 0 4)) (numM (slL l 5 7)) (numM (slL l 8 10))
  ·rw [decide_eq_true ok,if_neg (by simp)]
   by_cases e:(ctextL c).1=l
   ·rw [if_neg (by rw [e]; simp)]
    rw [text_parse hd hne e] at h; exact h
   ·rw [if_pos (by rw [S_toList,S_toList]; simpa using e)]
    refine hno ?_
    rw [Bool.eq_false_iff]; intro q
    apply e
    obtain ⟨a,b,_⟩:=ctext_parse q
    unfold ctextL
    rw [hq q,if_pos a]; exact b
  ·rw [decide_eq_false ok,if_pos (by rfl)]
   refine hno ?_
   rw [Bool.eq_false_iff]; intro q
   exact ok (pick_parse q).2.1
 have hday:(cparseL l).2=true→(if okD (numM (slL l 0 4)) (numM (slL l 5 7)) (numM (slL l 8 10)) then num (numM (slL l 0 4)) (numM (slL l 5 7)) (numM (slL l 8 10)) else 0)=num (dayQ l).1 (dayQ l).2.1 (dayQ l).2.2:=fun q=>by
  have w:okD (numM (slL l 0 4)) (numM (slL l 5 7)) (numM (slL l 8 10)):=(pick_parse q).2.1
  rw [if_pos w]; rfl
 have a1:=numM2 l 20 22 rfl
 have a2:=numM2 l 23 25 rfl
 have a3:=numM2 l 26 28 rfl
 have eP:=fun q:(cparseL l).2=true=>(pick_parse q).2.2
 have hdl:∀ k,(l.drop k).length≤1000:=fun k=>by rw [List.length_drop]; omega
 generalize hD:(if okD (numM (slL l 0 4)) (numM (slL l 5 7)) (numM (slL l 8 10)) then num (numM (slL l 0 4)) (numM (slL l 5 7)) (numM (slL l 8 10)) else 0)=D at hday ⊢
 have wA:=w64_off a1 a2
 have wB:w64 (3600 * numM (slL l 20 22)+60 * numM (slL l 23 25)+numM (slL l 26 28))=3600 * numM (slL l 20 22)+60 * numM (slL l 23 25)+numM (slL l 26 28):=w64_in (by omega) (by omega)
 have wC:w64 (0 - (3600 * numM (slL l 20 22)+60 * numM (slL l 23 25)+numM (slL l 26 28)))=0 - (3600 * numM (slL l 20 22)+60 * numM (slL l 23 25)+numM (slL l 26 28)):=w64_in (by omega) (by omega)
 have wD:w64 (0 - (3600 * numM (slL l 20 22)+60 * numM (slL l 23 25)))=0 - (3600 * numM (slL l 20 22)+60 * numM (slL l 23 25)):=w64_in (by omega) (by omega)
 have b25:(Eng.bAt (S l) 25 == 58)=decide (l.getD 25 0=58):=by
  rw [bAt_S,Bool.eq_iff_iff,beq_iff_eq,decide_eq_true_eq]
  exact ⟨fun q=>u8_eq (by show _=58; omega),fun q=>by rw [q]; rfl⟩
 have b19:(Eng.bAt (S l) 19 == 45)=decide (l.getD 19 0=45):=by
  rw [bAt_S,Bool.eq_iff_iff,beq_iff_eq,decide_eq_true_eq]
  exact ⟨fun q=>u8_eq (by show _=45; omega),fun q=>by rw [q]; rfl⟩
 have c22:(0:Int)≤22∧(22:Int)≤(l.length:Int):=by omega
 have c25:(0:Int)≤25∧(25:Int)≤(l.length:Int):=by omega
 have c25':(0:Int)≤25∧(25:Int) < (l.length:Int):=by omega
 have c19:(0:Int)≤19∧(19:Int) < (l.length:Int):=by omega
 have cl:(0:Int)≤(l.length:Int)∧(l.length:Int)≤(l.length:Int):=by omega
 have c26:(0:Int)≤26∧(26:Int)≤(l.length:Int):=by omega
 refine ⟨rNumE l 11 13 (by decide) ⟨rNumE l 14 16 (by decide) ⟨rNumE l 17 19 (by decide) (dup_of ?_),rNumE l 17 19 (by decide) ?_⟩,rNumE l 14 16 (by decide) (rNumE l 17 19 (by decide) ?_)⟩,rNumE l 11 13 (by decide) (rNumE l 14 16 (by decide) (rNumE l 17 19 (by decide) ?_))⟩
 all_goals
  rw [if_pos c22,if_pos c25]
  refine rNumE l 20 22 (by decide) (rNumE l 23 25 (by decide) ?_)
  simp only [lt]
  rw [if_pos c25',b25,wA]
  by_cases q25:l.getD 25 0=58
  ·rw [if_pos (decide_eq_true q25)]
   by_cases q28:(l.length:Int) > 28
   ·have c28:(0:Int)≤28∧(28:Int)≤(l.length:Int):=by omega
    have c29:(0:Int)≤29∧(29:Int)≤(l.length:Int):=by omega
    have sp:secP l:=⟨q25,by omega⟩
    rw [if_pos (decide_eq_true q28),if_pos c28]
    refine rNumE l 26 28 (by decide) ?_
    rw [if_pos c19,b19]
    by_cases q19:l.getD 19 0=45
    ·rw [if_pos (decide_eq_true q19),if_pos cl,if_pos c29,wB,wC,cutE]
     exact fin ⟨_,_,_,_,_,false,l.drop 29⟩ rfl (hdl _) fun q=>by
      rw [← eP q]; unfold pickC offP; rw [if_pos sp,if_pos sp,if_pos q19,hday q]; rfl
    ·rw [if_neg (dneg q19),if_pos cl,if_pos c29,wB,cutE]
     exact fin ⟨_,_,_,_,_,false,l.drop 29⟩ rfl (hdl _) fun q=>by
      rw [← eP q]; unfold pickC offP; rw [if_pos sp,if_pos sp,if_neg q19,hday q]; rfl
   ·have sp:¬ secP l:=fun q=>q28 (by have:=q.2; omega)
    rw [if_neg (dneg q28),if_pos c19,b19]
    by_cases q19:l.getD 19 0=45
    ·rw [if_pos (decide_eq_true q19),if_pos cl,if_pos c26,wD,cutE]
     exact fin ⟨_,_,_,_,_,false,l.drop 26⟩ rfl (hdl _) fun q=>by
      rw [← eP q]; unfold pickC offP; rw [if_neg sp,if_neg sp,if_pos q19,hday q]; rfl
    ·rw [if_neg (dneg q19),if_pos cl,if_pos c26,cutE]
     exact fin ⟨_,_,_,_,_,false,l.drop 26⟩ rfl (hdl _) fun q=>by
      rw [← eP q]; unfold pickC offP; rw [if_neg sp,if_neg sp,if_neg q19,hday q]; rfl
  ·have sp:¬ secP l:=fun q=>q25 q.1
   rw [if_neg (dneg q25),if_pos c19,b19]
   by_cases q19:l.getD 19 0=45
   ·rw [if_pos (decide_eq_true q19),if_pos cl,if_pos c26,wD,cutE]
    exact fin ⟨_,_,_,_,_,false,l.drop 26⟩ rfl (hdl _) fun q=>by
     rw [← eP q]; unfold pickC offP; rw [if_neg sp,if_neg sp,if_pos q19,hday q]; rfl
   ·rw [if_neg (dneg q19),if_pos cl,if_pos c26,cutE]
    exact fin ⟨_,_,_,_,_,false,l.drop 26⟩ rfl (hdl _) fun q=>by
     rw [← eP q]; unfold pickC offP; rw [if_neg sp,if_neg sp,if_neg q19,hday q]; rfl
end Go.Proofs.YtbnpclndiichcaaGreatDoor
end
section
set_option linter.unusedVariables false
set_option linter.unusedSimpArgs false
namespace Go.Proofs.YtbnpclndiichcaaGreatDoor
open Go Go.Proofs.YtbnpclndiichcaaGreatDoor.Eng Go.Proofs.YtbnpclndiichcaaGreatDoor.Pl
set_option maxRecDepth 100000
set_option maxHeartbeats 2000000
theorem room (n k:Nat) (hn:n≤1000000000) (hk:k≤64):roomOk n k=true:=by
 unfold roomOk; rw [decide_eq_true_eq]
 have:(n+1000) * k≤1000001000 * 64:=Nat.mul_le_mul (by omega) hk
 omega
theorem qEnd (n:Int) {K} (h:K (endD n)):Xq2b n K:=by
 unfold Xq2b Yq2b
 refine rdate n ?_
 unfold endD at h
 by_cases e:-719162≤n∧n≤2932896
 ·rw [if_pos e]
  rw [decide_eq_true e,Bool.true_and] at h
  obtain ⟨⟨v1,v2,v3,v4,_⟩,_⟩:=num_date e.1 e.2
  rw [if_pos rfl]
  exact rdays _ _ v3 v4 h
 ·rw [if_neg e]
  rw [decide_eq_false e,Bool.false_and] at h
  rw [if_neg (by simp)]; exact h
def aheadG (ls:List LR) (k:Nat):Int:=if k=0 then 729 else (ls.getD (k - 1) (0,0,false)).1
theorem qWrong (t:Tb) (k:Nat) (hk:k < t.ls.length) (hl:t.ls.length≤1000000) {K} (h:K (wrongL k t.ls[k] (aheadG t.ls k))):Xq1f (TLV t.ls,t.has,t.ex,()) (k:Int) K:=by
 unfold Xq1f Yq1f
 dsimp only
 rw [TLV_len,if_pos (by omega),Int.toNat_natCast]
 refine asL1 hk (asL2 hk (asL3 hk ?_))
 unfold wrongL at h
 by_cases h1:200≤k
 ·rw [if_pos h1] at h; rw [if_pos (decide_eq_true (by omega))]; exact h
 rw [if_neg h1] at h; rw [if_neg (dneg (by omega))]
 by_cases h2:(t.ls[k]).1 < 730
 ·rw [if_pos (.inl h2)] at h
  rw [if_pos (decide_eq_true h2)]; exact h
 rw [if_neg (dneg h2)]
 by_cases h3:(t.ls[k]).1≥2932896
 ·rw [if_pos (.inr h3)] at h
  rw [if_pos (decide_eq_true h3)]; exact h
 rw [if_neg (dneg h3)]
 rw [if_neg (by omega)] at h
 refine qEnd _ ?_
 cases he:endD (t.ls[k]).1
 ·rw [if_pos (by rfl)]; rw [if_pos he] at h; exact h
 rw [if_neg (by simp)]
 rw [if_neg (by simp [he])] at h
 have last:((t.ls[k]).2.1=1∨(t.ls[k]).2.1=-1)→(if decide ((k:Int) > 0)=true then
   (if 0≤w64 ((k:Int) - 1)∧w64 ((k:Int) - 1) < (t.ls.length:Int) then Eng.asInt .i64 (getC (TLV t.ls) (Int.toNat (w64 ((k:Int) - 1))) 0) False fun n6=>if decide ((t.ls[k]).1≤n6)=true then K 4 else K 0 else False) else K 0):=fun hs=>by
  rw [if_neg (by omega)] at h
  unfold aheadG at h
  by_cases k0:k=0
  ·rw [if_neg (dneg (by omega))]
   rw [if_pos k0,if_neg (by omega)] at h; exact h
  ·have w1:w64 ((k:Int) - 1)=((k - 1:Nat):Int):=by rw [w64_in (by omega) (by omega)]; omega
   rw [if_pos (decide_eq_true (by omega)),w1,if_pos (by omega),Int.toNat_natCast]
   have hk':k - 1 < t.ls.length:=by omega
   refine asL1 hk' ?_
   rw [if_neg k0,getD_in _ _ _ hk'] at h
   by_cases h6:(t.ls[k]).1≤(t.ls[k - 1]).1
   ·rw [if_pos (decide_eq_true h6)]; rw [if_pos h6] at h; exact h
   ·rw [if_neg (dneg h6)]; rw [if_neg h6] at h; exact h
 by_cases s1:(t.ls[k]).2.1=1
 ·rw [if_neg (by simp [s1])]; exact last (.inl s1)
 ·rw [if_pos (by simpa using s1)]
  by_cases s2:(t.ls[k]).2.1=-1
  ·rw [if_neg (by simp [s2])]; exact last (.inr s2)
  ·rw [if_pos (by simpa using s2)]
   rw [if_pos ⟨s1,s2⟩] at h; exact h
theorem qCheck (t:Tb) (hl:t.ls.length≤1000000) {K} (h:K ((checkT t).1:Int) (checkT t).2):Xq1k (TLV t.ls,t.has,t.ex,()) K:=by
 unfold Xq1k Yq1k
 unfold checkT at h
 refine lp_ind (fun x=>t.ls.length - x.1.2.2.2.2.1.toNat) (fun x=>∃ (j:Nat) (a:Int),j≤t.ls.length∧a=aheadG t.ls j∧729≤a∧a≤2932896∧checkG j a (t.ls.drop j)=checkG 0 729 t.ls ∧
  x=(((),0,0,(a+1) * 86400,(j:Int),()),(TLV t.ls,t.has,t.ex,()),())) ?_ ⟨0,729,by omega,rfl,by omega,by omega,rfl,rfl⟩
 rintro x ⟨j,a,hj,hag,ha,ha',hc,rfl⟩ k hk
 unfold Lq1k_0
 dsimp only
 rw [TLV_len,Int.toNat_natCast]
 by_cases e:j < t.ls.length
 ·rw [if_pos (decide_eq_true (by omega))]
  refine qWrong t j e hl ?_
  rw [← hag]
  rw [List.drop_eq_getElem_cons e,checkG] at hc
  by_cases hw:wrongL j t.ls[j] a=0
  ·rw [if_neg (by simp [hw]),if_pos (by omega)]
   refine asL1 e ?_
   rw [if_neg (by simp [hw])] at hc
   obtain ⟨_,q1,q2,_⟩:=wrongL_0 hw
   have w1:w64 ((j:Int)+1)=((j+1:Nat):Int):=by rw [w64_in (by omega) (by omega)]; omega
   have w2:w64 (86400 * w64 ((t.ls[j]).1+1))=((t.ls[j]).1+1) * 86400:=by rw [w64_in (n:=(t.ls[j]).1+1) (by omega) (by omega),w64_in (by omega) (by omega)]; omega
   simp only [lt,w1,w2]
   refine hk _ ⟨j+1,_,e,?_,by omega,by omega,hc,rfl⟩ (by show t.ls.length - Int.toNat ((j+1:Nat):Int) < t.ls.length - Int.toNat (j:Int); omega)
   unfold aheadG
   rw [if_neg (by omega),Nat.add_sub_cancel,getD_in _ _ _ e]
  ·rw [if_pos (by simpa using hw)]
   rw [if_pos hw] at hc
   rw [← hc,if_pos hw] at h
   exact h
 ·rw [if_neg (dneg (by omega))]
  have:j=t.ls.length:=by omega
  subst this
  rw [List.drop_length,checkG] at hc
  rw [← hc,if_neg (by simp)] at h
  unfold expB at h
  dsimp only at h
  have em:(if 63072000 > (a+1) * 86400 then 63072000 else (a+1) * 86400)=(a+1) * 86400:=by split <;> omega
  rw [em] at h
  cases hh:t.has
  ·rw [hh] at h
   rw [if_neg (show ¬ (false=true) by simp)] at h
   rw [if_neg (show ¬ (false=true) by simp),if_pos (show (!false)=true from rfl)]
   by_cases h1:t.ex=0
   ·rw [if_neg (by simp [h1])]
    rw [if_neg (by simp [h1])] at h; exact h
   ·rw [if_pos (by simpa using h1)]
    rw [if_pos h1] at h; exact h
  ·rw [hh,if_pos rfl] at h
   rw [if_pos rfl]
   by_cases h1:t.ex < (a+1) * 86400
   ·rw [if_pos (decide_eq_true h1)]
    rw [if_pos (.inl h1)] at h; exact h
   rw [if_neg (dneg h1)]
   by_cases h2:t.ex > 253402300799
   ·rw [if_pos (decide_eq_true h2)]
    rw [if_pos (.inr h2)] at h; exact h
   rw [if_neg (dneg h2),if_neg (by simp)]
   rw [if_neg (by omega)] at h; exact h
theorem qRightT (t:Tb) (hl:t.ls.length≤1000000) {K} (h:K (rightT t)):Xq0t (TLV t.ls,t.has,t.ex,()) K:=by
 unfold Xq0t Yq0t
 exact qCheck t hl h
end Go.Proofs.YtbnpclndiichcaaGreatDoor
end
section
set_option linter.unusedVariables false
set_option linter.unusedSimpArgs false
namespace Go.Proofs.YtbnpclndiichcaaGreatDoor
open Go Go.Proofs.YtbnpclndiichcaaGreatDoor.Eng Go.Proofs.YtbnpclndiichcaaGreatDoor.Pl
set_option maxRecDepth 100000
set_option maxHeartbeats 4000000
theorem qSub (a b:Int) (ha:i64r a) (hb:i64r b) {K:Int→Bool→Prop} (h1:i64r (a - b)→K (a - b) true) (h2:¬ i64r (a - b)→K 0 false):Xq2f a b K:=by
 unfold Xq2f Yq2f
 unfold i64r at *
 simp only [decide_eq_true_eq]
 by_cases b0:b < 0
 ·have w1:w64 (9223372036854775807+b)=9223372036854775807+b:=w64_in (by omega) (by omega)
  rw [if_pos b0,w1,if_neg (show ¬ b > 0 by omega)]
  by_cases c:a > 9223372036854775807+b
  ·rw [if_pos c]; exact h2 (by omega)
  ·rw [if_neg c,w64_in (by omega) (by omega)]; exact h1 (by omega)
 ·rw [if_neg b0]
  by_cases b1:b > 0
  ·have w1:w64 (-9223372036854775808+b)=-9223372036854775808+b:=w64_in (by omega) (by omega)
   rw [if_pos b1,w1]
   by_cases c:a < -9223372036854775808+b
   ·rw [if_pos c]; exact h2 (by omega)
   ·rw [if_neg c,w64_in (by omega) (by omega)]; exact h1 (by omega)
  ·rw [if_neg b1,w64_in (by omega) (by omega)]; exact h1 (by omega)
def prevC (l:List Rec) (j:Nat):Int:=if j=0 then 0 else (l.getD (j - 1) (0,0)).2
theorem qAhead (l:List Rec) (j:Nat) (hj:j≤l.length) (hl:l.length≤100000) {K:Int→Prop} (h:K (prevC l j)):Xq11 (RV l) (j:Int) K:=by
 unfold Xq11 Yq11
 unfold prevC at h
 rw [RV_len]
 by_cases j0:j=0
 ·rw [if_pos j0] at h
  rw [if_pos (by simp [j0])]; exact h
 ·rw [if_neg j0,getD_at _ _ _ (by omega)] at h
  have e1:w64 ((j:Int) - 1)=((j - 1:Nat):Int):=by rw [w64_in (by omega) (by omega)]; omega
  rw [if_neg (by simpa using j0),e1,if_pos (by omega),Int.toNat_natCast]
  exact asR2 (by omega) h
theorem asR1e {l:List Rec} {i:Nat} (h:i < l.length) {F:Prop} {K:Int→Prop}:Eng.asInt .i64 (getC (RV l) i 0) F K=K (l[i]).1:=by
 have:getC (RV l) i 0=some (.c (.int .i64 (l[i]).1)):=by simp [getC,RV,eRec,V.cells,h]
 rw [this]; simp [Eng.asInt]
theorem qRecCheck (l:List Rec) (hi:recI l) (hlen:l.length≤100000) {K:Int→Int→Prop} (h:∀ n,K n (recE l)):Xq19 (RV l) K:=by
 unfold Xq19 Yq19
 refine lp_ind (fun x=>(l.length:Nat) - x.1.2.2.2.1.toNat) (fun x=>∃ (j:Nat),j≤l.length∧x=((RV l,(0:Int),(0:Int),(j:Int),()),())∧recErr j (prevR (-2419199,0) l j) (l.drop j)=recE l∧(0 < j→0≤(prevR (-2419199,0) l j).1)) ?_ ⟨0,by omega,rfl,rfl,by omega⟩
 rintro x ⟨j,hj,rfl,hok,hps⟩ k hk
 unfold Lq19_0
 simp only [decide_eq_true_eq,RV_len]
 by_cases e:j=l.length
 ·rw [if_neg (by omega)]
  have:recE l=0:=by rw [← hok,e,List.drop_length]; rfl
  rw [this] at h
  exact h _
 ·have hj':j < l.length:=by omega
  obtain ⟨hc1,hc2⟩:=hi l[j] (List.getElem_mem hj')
  have hx:0≤(j:Int)∧(j:Int) < (l.length:Int):=by omega
  rw [Int.toNat_natCast,if_pos (by omega),if_pos hx]
  refine asR2 hj' (qAhead l j hj hlen ?_)
  rw [if_pos hx]
  refine asR2 hj' (qAhead l j hj hlen ?_)
  have hbp:(prevR (-2419199,0) l j).2=prevC l j:=by
   unfold prevR prevC; by_cases j0:j=0
   ·rw [if_pos j0,if_pos j0]
   ·rw [if_neg j0,if_neg j0]
  have hb0:0 < j→(prevR (-2419199,0) l j).1=(l[j - 1]'(by omega)).1:=fun h0=>by
   unfold prevR; rw [if_neg (by omega),getD_at _ _ _ (by omega)]
  have hbi:i64r (prevR (-2419199,0) l j).2∧(0 < j→i64r (prevR (-2419199,0) l j).1):=by
   unfold prevR
   by_cases j0:j=0
   ·rw [if_pos j0]; exact ⟨by unfold i64r; decide,by omega⟩
   ·rw [if_neg j0,getD_at _ _ _ (by omega)]
    have:=hi _ (List.getElem_mem (show j - 1 < l.length by omega))
    exact ⟨this.2,fun _=>this.1⟩
  have hnx:prevR (-2419199,0) l (j+1)=l[j]:=by
   unfold prevR; rw [if_neg (by omega),Nat.add_sub_cancel,getD_at _ _ _ hj']
  have hd:l.drop j=l[j] :: l.drop (j+1):=List.drop_eq_getElem_cons hj'
  rw [hd,recErr] at hok
  have hre:(l.drop (j+1)).isEmpty=decide (j+1=l.length):=by
   rw [Bool.eq_iff_iff,List.isEmpty_iff,List.drop_eq_nil_iff,decide_eq_true_eq]; omega
  have hre':∀ s:Int,((decide (s=0) && (l.drop (j+1)).isEmpty)=true)↔(s=0∧j+1=l.length):=fun s=>by
   rw [hre,Bool.and_eq_true,decide_eq_true_eq,decide_eq_true_eq]
  have hre'':∀ s:Int,((decide (s=0) && (l.drop (j+1)).isEmpty)=false)↔¬ (s=0∧j+1=l.length):=fun s=>by
   rw [← hre' s,Bool.not_eq_true]
  simp only [hre',hre''] at hok
  rw [← hnx] at hok
  have e1:w64 ((j:Int)+1)=((j+1:Nat):Int):=by rw [w64_in (by omega) (by omega)]; omega
  have e2:w64 ((l.length:Int) - 1)=(l.length:Int) - 1:=w64_in (by omega) (by omega)
  rw [← hbp]
  have hcc:prevR (-2419199,0) l (j+1)=l[j]:=hnx
  generalize prevR (-2419199,0) l j=b at *
  have c8:200 < j→K (j:Int) 8:=fun q=>by rw [if_pos q] at hok; rw [← hok] at h; exact h _
  have c9:¬ 200 < j∧(l[j]).1 < 0→K (j:Int) 9:=fun q=>by rw [hcc,if_neg q.1,if_pos q.2] at hok; rw [← hok] at h; exact h _
  have c6:¬ 200 < j∧¬ (l[j]).1 < 0∧¬ ((l[j]).2 - b.2=0∧j+1=l.length)∧(l[j]).2 - b.2≠1∧(l[j]).2 - b.2≠-1→K (j:Int) 6:=fun q=>by
   rw [hcc,if_neg q.1,if_neg q.2.1,if_pos q.2.2] at hok; rw [← hok] at h; exact h _
  have c7:¬ 200 < j∧¬ (l[j]).1 < 0∧(((l[j]).2 - b.2=0∧j+1=l.length)∨(l[j]).2 - b.2=1∨(l[j]).2 - b.2=-1)∧0 < j∧((((l[j]).2 - b.2=0∧j+1=l.length)∧(l[j]).1 - b.1 < 0)∨(¬ ((l[j]).2 - b.2=0∧j+1=l.length)∧(l[j]).1 - b.1 < 2419199))→K (j:Int) 7:=fun q=>by
   obtain ⟨q1,q2,q3,q4,q5⟩:=q
   rw [hcc,if_neg q1,if_neg q2,if_neg (by omega),if_pos] at hok
   ·rw [← hok] at h; exact h _
   ·refine ⟨q4,?_⟩
    rcases q5 with q5 | q5
    ·rw [if_pos q5.1]; exact q5.2
    ·rw [if_neg q5.1]; exact q5.2
  have good:(j≤200∧0≤(l[j]).1∧(((l[j]).2 - b.2=0∧j+1=l.length)∨(l[j]).2 - b.2=1∨(l[j]).2 - b.2=-1)∧(j=0∨(((l[j]).2 - b.2=0∧j+1=l.length)∧(l[j]).1 - b.1≥0)∨(¬ ((l[j]).2 - b.2=0∧j+1=l.length)∧(l[j]).1 - b.1≥2419199))) →
    k ((RV l,(0:Int),(0:Int),((j+1:Nat):Int),()),()):=fun hg=>by
   obtain ⟨q1,q2,q3,q4⟩:=hg
   rw [if_neg (by omega),hcc,if_neg (by omega),if_neg (by omega),if_neg] at hok
   ·refine hk _ ⟨j+1,by omega,rfl,by rw [hcc]; exact hok,fun _=>by rw [hcc]; exact q2⟩ ?_
    show l.length - ((j+1:Nat):Int).toNat < l.length - ((j:Nat):Int).toNat
    omega
   ·rintro ⟨r1,r2⟩
    rcases q4 with q4 | q4 | q4
    ·omega
    ·rw [if_pos q4.1] at r2; omega
    ·rw [if_neg q4.1] at r2; omega
  clear hok hk h hd hre hre' hre'' hnx hcc
  rw [e1,e2]
  have hx1:=hx.1
  have hx2:=hx.2
  simp only [hx1,hx2,and_self,if_true,asR1e hj']
  have ew:0 < j→0≤(l[j]).1→w64 ((l[j]).1 - b.1)=(l[j]).1 - b.1:=fun h1 h2=>by
   have:=hps h1
   have:=hbi.2 h1
   unfold i64r at *
   exact w64_in (by omega) (by omega)
  by_cases j0:j=0
  ·have j1:¬ ((j:Int) > 0):=by omega
   simp only [j1,if_false]
   refine qSub _ b.2 hc2 hbi.1 (fun hf=>?_) fun hf=>?_
   ·simp only [if_true,beq_iff_eq,Bool.not_eq_true',beq_eq_false_iff_ne,ne_eq,bne_iff_ne,not_true,if_false,Bool.not_true,Bool.false_eq_true]
    repeat' split
    all_goals first
     |(refine c8 ?_; omega)
     |(refine c9 ?_; omega)
     |(refine c6 ?_; omega)
     |(refine good ?_; omega)
   ·simp only [if_true,if_false,Bool.not_false,Bool.false_eq_true,beq_iff_eq,Bool.not_eq_true',beq_eq_false_iff_ne,ne_eq]
    unfold i64r at hf
    repeat' split
    all_goals first
     |(refine c8 ?_; omega)
     |(refine c9 ?_; omega)
     |(refine c6 ?_; omega)
     |(exfalso; unfold i64r at *; omega)
  ·have j1:(j:Int) > 0:=by omega
   have e3:w64 ((j:Int) - 1)=((j - 1:Nat):Int):=by rw [w64_in (by omega) (by omega)]; omega
   have x1:(0:Int)≤((j - 1:Nat):Int):=by omega
   have x2:((j - 1:Nat):Int) < (l.length:Int):=by omega
   simp only [j1,if_true,e3,x1,x2,and_self,Int.toNat_natCast,asR1e (show j - 1 < l.length by omega),← hb0 (show 0 < j by omega)]
   refine qSub _ b.2 hc2 hbi.1 (fun hf=>?_) fun hf=>?_
   ·simp only [if_true,beq_iff_eq,Bool.not_eq_true',beq_eq_false_iff_ne,ne_eq,bne_iff_ne,not_true,if_false,Bool.not_true,Bool.false_eq_true]
    repeat' split
    all_goals first
     |(refine c8 ?_; omega)
     |(refine c9 ?_; omega)
     |(refine c6 ?_; omega)
     |(refine c7 ?_; omega)
     |(refine good ?_; omega)
     |(refine c7 ?_; rw [ew (by omega) (by omega)] at *; omega)
     |(refine good ?_; rw [ew (by omega) (by omega)] at *; omega)
   ·simp only [if_true,if_false,Bool.not_false,Bool.false_eq_true,beq_iff_eq,Bool.not_eq_true',beq_eq_false_iff_ne,ne_eq]
    unfold i64r at hf
    repeat' split
    all_goals first
     |(refine c8 ?_; omega)
     |(refine c9 ?_; omega)
     |(refine c6 ?_; omega)
     |(exfalso; unfold i64r at *; omega)
end Go.Proofs.YtbnpclndiichcaaGreatDoor
end
section
set_option linter.unusedVariables false
set_option linter.unusedSimpArgs false
namespace Go.Proofs.YtbnpclndiichcaaGreatDoor
open Go Go.Proofs.YtbnpclndiichcaaGreatDoor.Eng Go.Proofs.YtbnpclndiichcaaGreatDoor.Pl
set_option maxRecDepth 100000
set_option maxHeartbeats 4000000
theorem qRecRight (l:List Rec) (hi:recI l) (hlen:l.length≤100000) {K:Bool→Prop} (h:K (recRight l)):Xq18 (RV l) K:=by
 unfold Xq18 Yq18
 refine qRecCheck l hi hlen fun n=>?_
 have:=recErr_ok l 0 (-2419199,0)
 unfold recE
 unfold recRight at h
 cases hb:recOk 0 (-2419199,0) l
 ·rw [hb] at h this
  have:recErr 0 (-2419199,0) l≠0:=fun e=>by simpa using this.1 e
  rw [show (recErr 0 (-2419199,0) l == 0)=false by simpa using this]; exact h
 ·rw [hb] at h this
  rw [this.2 rfl]; exact h
theorem lastExp_prev (l:List Rec) (h:0 < l.length):lastExp l=((l[l.length - 1]).2 == prevC l (l.length - 1)):=by
 unfold lastExp prevC
 have g1:=getD_at l (l.length - 1) (0,0) (by omega)
 by_cases e2:l.length=1
 ·have g0:l.getD 0 (0,0)=l[l.length - 1]'(by omega):=by rw [← g1]; rw [e2]
  rw [g0,if_pos (by omega),show decide (l.length=1)=true by simpa using e2,show decide (1 < l.length)=false by simp; omega]
  simp
 ·rw [if_neg (by omega),show l.length - 1 - 1=l.length - 2 by omega,g1]
  rw [show decide (l.length=1)=false by simpa using e2,show decide (1 < l.length)=true by simp; omega]
  simp
theorem qLeaps (l:List Rec) (hl:l.length≤100000) {K:Int→Prop} (h:K ((leapsR l).length:Int)):Xq1h (RV l) K:=by
 unfold Xq1h Yq1h
 rw [RV_len]
 rw [leapsR_len] at h
 by_cases e:l.length=0
 ·rw [if_neg (dneg (by omega))]
  have:(if lastExp l=true then l.length - 1 else l.length)=l.length:=by split <;> omega
  rw [this] at h; exact h
 ·have e1:w64 ((l.length:Int) - 1)=((l.length - 1:Nat):Int):=by rw [w64_in (by omega) (by omega)]; omega
  rw [if_pos (decide_eq_true (by omega)),e1,if_pos (by omega),Int.toNat_natCast]
  refine asR2 (by omega) (qAhead l _ (by omega) hl ?_)
  rw [lastExp_prev l (by omega)] at h
  cases hb:((l[l.length - 1]'(by omega)).2 == prevC l (l.length - 1))
  ·rw [hb,if_neg (by simp)] at h
   rw [if_neg (by simp)]; exact h
  ·rw [hb,if_pos rfl] at h
   rw [if_pos rfl]; exact h
theorem qExpiry (l:List Rec) (hl:l.length≤100000) {K:Int→Bool→Prop} (h:∀ n,K n (lastExp l)):Xq0m (RV l) K:=by
 unfold Xq0m Yq0m
 refine qLeaps l hl ?_
 rw [RV_len,leapsR_len]
 cases e:lastExp l
 ·rw [e] at h
  rw [if_neg (by simp:¬ (false=true)),if_pos (by simp)]
  exact h _
 ·have hne:0 < l.length:=by
   cases l with
   | nil=>simp [lastExp] at e
   | cons a r=>simp
  rw [e] at h
  rw [if_pos (rfl:true=true),if_neg (by simp; omega),if_pos (by omega),Int.toNat_natCast]
  exact asR1 (by omega) (h _)
theorem leaps_get (l:List Rec) (i:Nat) (hi:i < (leapsR l).length) (hi':i < l.length):(leapsR l)[i]=l[i]:=by
 unfold leapsR
 by_cases e:lastExp l=true
 ·simp only [e,if_true,List.getElem_take]
 ·simp only [e,if_false]; rfl
theorem qSum (l:List Rec) (hs:Srt l) (hl:l.length≤100000) (a:Int) {K:Int→Prop} (h:K (sumR l a)):Xq2a (RV l) a K:=by
 unfold Xq2a Yq2a
 rw [sumR_sm] at h
 have hll:=leapsR_len l
 have hle:=fl_le (fun c:Rec=>decide (c.1 > a)) (leapsR l)
 have hsp:=fl_spec (fun c:Rec=>decide (c.1 > a)) (leapsR l)
 have hss:=srt_leaps hs
 generalize hf:Pl.fl (fun c:Rec=>decide (c.1 > a)) (leapsR l)=f at *
 have hll2:(leapsR l).length≤l.length:=by rw [hll]; split <;> omega
 refine lp_at (fun j=>((RV l,a,(0:Int),sm (leapsR l) (min j f),(j:Int),()),())) (leapsR l).length (by simp [sm]) fun j hj k hk=>?_
 unfold Lq2a_0
 dsimp only
 refine qLeaps l hl ?_
 rw [RV_len]
 by_cases e:j < (leapsR l).length
 ·have hjl:j < l.length:=by omega
  have e1:w64 ((j:Int)+1)=((j+1:Nat):Int):=by rw [w64_in (by omega) (by omega)]; omega
  rw [if_pos (decide_eq_true (by omega)),if_pos (by omega),Int.toNat_natCast]
  refine asR1 hjl ?_
  have hk':=hk e
  have hg:=leaps_get l j e hjl
  by_cases c:j < f
  ·have:=(hsp j e).1 c
   rw [hg] at this
   rw [if_pos (decide_eq_true (by simpa using this)),if_pos (by omega)]
   refine asR2 hjl ?_
   rw [e1]
   have:sm (leapsR l) (min (j+1) f)=(l[j]).2:=by
    rw [show min (j+1) f=j+1 by omega]
    unfold sm; rw [if_neg (by omega),Nat.add_sub_cancel,getD_at _ _ _ e,hg]
   rw [this] at hk'; exact hk'
  ·have hfl:f < (leapsR l).length:=by omega
   have h2:=(hsp f hfl).2 rfl
   have h3:=hss f j hfl e (by omega)
   rw [hg] at h3
   simp only [decide_eq_true_eq] at h2
   rw [if_neg (dneg (by omega)),e1]
   rw [show min (j+1) f=min j f by omega] at hk'
   exact hk'
 ·rw [if_neg (dneg (by omega))]
  rw [show min j f=f by omega]; exact h
theorem qNames (z:Zn) (hl:z.ty.length≤100000) {K:List V→Bool→Bool→Prop} (h:K (NV (z.ty.map (·.2.2))) true false):Xq14 (tupZ z) K:=by
 show Xq14 (TV z.ty,RV z.tr,RV z.lp,S z.ft,z.v,()) K
 unfold Xq14 Yq14
 refine lp_at (fun j=>(((),(),(),(j:Int),()),(TV z.ty,RV z.tr,RV z.lp,S z.ft,z.v,()),NV ((z.ty.take j).map (·.2.2)),())) z.ty.length rfl fun j hj k hk=>?_
 unfold Lq14_0
 dsimp only
 rw [TV_len,NV_len,List.length_map,List.length_take,Nat.min_eq_left hj,Int.toNat_natCast]
 by_cases e:j < z.ty.length
 ·have e1:w64 ((j:Int)+1)=((j+1:Nat):Int):=by rw [w64_in (by omega) (by omega)]; omega
  rw [if_pos (decide_eq_true (by omega)),if_pos (by omega)]
  refine asT3 e ?_
  rw [List.length_singleton,if_pos (room16 _ (by omega)),e1]
  have:=hk e
  rw [List.take_succ_eq_append_getElem e,List.map_append] at this
  simpa [NV] using this
 ·have:j=z.ty.length:=by omega
  subst this
  rw [if_neg (dneg (by omega))]
  rw [List.take_length]; exact h
end Go.Proofs.YtbnpclndiichcaaGreatDoor
end
section
set_option linter.unusedVariables false
set_option linter.unusedSimpArgs false
namespace Go.Proofs.YtbnpclndiichcaaGreatDoor
open Go Go.Proofs.YtbnpclndiichcaaGreatDoor.Eng Go.Proofs.YtbnpclndiichcaaGreatDoor.Pl
set_option maxRecDepth 100000
set_option maxHeartbeats 4000000
def QNI (ns:List Int):List V:=ns.map fun n=>.c (.int .i64 n)
theorem QNI_len (ns:List Int):(QNI ns).length=ns.length:=by simp [QNI]
theorem qasNI {ns:List Int} {i:Nat} (h:i < ns.length) {F:Prop} {K:Int→Prop} (hk:K ns[i]):Eng.asInt .i64 (getC (QNI ns) i 0) F K:=by
 have:getC (QNI ns) i 0=some (.c (.int .i64 ns[i])):=by simp [getC,QNI,V.cells,h]
 rw [this]; simpa [Eng.asInt] using hk
theorem S_eqB (a b:List UInt8):(ByteArray.toList (S a) == ByteArray.toList (S b))=(a == b):=by rw [S_toList,S_toList]
theorem qPool (l:List (List UInt8)) (hl:l.length≤1000) (hs:∀ s∈l,s.length≤10000) {K:ByteArray→Bool→List V→Bool→Bool→Prop}
  (h:∀ p at' o z,p.size≤100000000→(l.all abbrL && decide (poolN [] l≤256))=true→p.size=poolN [] l→K p true at' o z)
  (h':(l.all abbrL && decide (poolN [] l≤256))=false→∀ p at' o z,K p false at' o z):Xq1p (NV l) K:=by
 unfold Xq1p Yq1p
 have hle:=poolN_le l [] hs
 refine lp_ind (fun x=>l.length - x.1.2.2.2.2.2.2.1.toNat) (fun x=>∃ (j:Nat) (p:List UInt8) (ns:List Int),j≤l.length∧x=((NV l,ByteArray.mk #[],(),false,S p,(),(j:Int),()),QNI ns,()) ∧
  (l.take j).all abbrL=true∧p.length+poolN (l.take j) (l.drop j)=poolN [] l∧ns.length=j∧∀ n∈ns,0≤n) ?_ ⟨0,[],[],by omega,rfl,rfl,by simp,rfl,by simp⟩
 rintro x ⟨j,p,ns,hj,rfl,hall,hp,hat,hnn⟩ k hk
 unfold Lq1p_0
 dsimp only
 rw [NV_len,Int.toNat_natCast]
 by_cases e:j=l.length
 ·rw [if_neg (dneg (by omega)),S_size]
  rw [e,List.take_length] at hall
  rw [e,List.drop_length] at hp
  have hp':p.length=poolN [] l:=by simpa [poolN] using hp
  by_cases h2:(p.length:Int) > 256
  ·rw [if_pos (decide_eq_true h2)]
   exact h' (by rw [hall]; simp; omega) _ _ _ _
  ·rw [if_neg (dneg h2)]
   exact h _ _ _ _ (by rw [S_size]; omega) (by rw [hall]; simp; omega) (by rw [S_size]; exact hp')
 ·have hj':j < l.length:=by omega
  rw [if_pos (decide_eq_true (by omega)),if_pos (by omega)]
  refine asN hj' ?_
  have hsl:=hs l[j] (List.getElem_mem hj')
  refine rabbr _ (by omega) ?_
  have hd':l.drop j=l[j] :: l.drop (j+1):=List.drop_eq_getElem_cons hj'
  have ht:l.take (j+1)=l.take j++[l[j]]:=List.take_succ_eq_append_getElem hj'
  have hmem:=List.getElem_mem hj'
  rw [hd',poolN] at hp
  cases ha:abbrL l[j]
  ·rw [if_pos (show (!false)=true from rfl)]
   refine h' ?_ _ _ _ _
   have:l.all abbrL=false:=by
    rw [Bool.eq_false_iff]; intro h; rw [List.all_eq_true.1 h _ hmem] at ha; cases ha
   rw [this]; rfl
  ·rw [if_neg (by simp)]
   have hall':(l.take (j+1)).all abbrL=true:=by rw [ht,List.all_append,hall]; simp [ha]
   have e1:w64 ((j:Int)+1)=((j+1:Nat):Int):=by rw [w64_in (by omega) (by omega)]; omega
   have hps:p.length≤100000000:=by omega
   have step:∀ (p':List UInt8) (v:Int),0≤v→p'.length+poolN (l.take (j+1)) (l.drop (j+1))=poolN [] l→k ((NV l,ByteArray.mk #[],(),false,S p',(),((j+1:Nat):Int),()),QNI ns++[.c (.int .i64 v)],()):=fun p' v hv hq=>by
    refine hk _ ⟨j+1,p',ns++[v],by omega,by simp [QNI],hall',hq,by simp [hat],?_⟩ ?_
    ·intro n hn
     rcases List.mem_append.1 hn with hn | hn
     ·exact hnn n hn
     ·simp at hn; omega
    ·show l.length - ((j+1:Nat):Int).toNat < l.length - ((j:Nat):Int).toNat
     omega
   refine lp_ind (fun x=>j - x.1.2.2.2.2.2.2.2.2.1.toNat) (fun x=>∃ (i:Nat) (a:Int),i≤j∧x=((NV l,ByteArray.mk #[],(),false,S p,(),(j:Int),a,(i:Int),()),QNI ns,()) ∧
    ((a=-1∧l[j]∉l.take i)∨(0≤a∧l[j]∈l.take i))) ?_ ⟨0,-1,by omega,rfl,.inl ⟨rfl,by simp⟩⟩
   rintro x ⟨i,a,hi,rfl,hm⟩ k' hk'
   unfold Lq1p_1
   dsimp only
   rw [NV_len,QNI_len,Int.toNat_natCast,Int.toNat_natCast]
   by_cases ei:i < j
   ·have e2:w64 ((i:Int)+1)=((i+1:Nat):Int):=by rw [w64_in (by omega) (by omega)]; omega
    have hti:l.take (i+1)=l.take i++[l[i]]:=List.take_succ_eq_append_getElem (by omega)
    have dec:j - (((i+1:Nat):Int)).toNat < j - ((i:Nat):Int).toNat:=by omega
    rw [if_pos (decide_eq_true (by omega)),if_pos (by omega)]
    refine asN (by omega) ?_
    rw [if_pos (by omega)]
    refine asN hj' ?_
    rw [S_eqB,e2]
    by_cases hq:l[i]=l[j]
    ·rw [if_pos (by simpa using hq),if_pos (by omega)]
     refine qasNI (by omega) ?_
     refine hk' _ ⟨i+1,_,ei,rfl,.inr ⟨hnn _ (List.getElem_mem _),by rw [hti,hq]; simp⟩⟩ dec
    ·rw [if_neg (by simpa using hq)]
     refine hk' _ ⟨i+1,a,ei,rfl,?_⟩ dec
     rcases hm with ⟨m1,m2⟩ | ⟨m1,m2⟩
     ·exact .inl ⟨m1,by rw [hti,List.mem_append,List.mem_singleton]; exact fun h=>h.elim m2 fun h=>hq h.symm⟩
     ·exact .inr ⟨m1,by rw [hti]; exact List.mem_append_left _ m2⟩
   ·have:i=j:=by omega
    subst this
    rw [if_neg (dneg (by omega))]
    rcases hm with ⟨m1,m2⟩ | ⟨m1,m2⟩
    ·have hc:(l.take i).contains l[i]=false:=by rw [Bool.eq_false_iff,ne_eq,List.contains_iff_mem]; exact m2
     rw [hc,if_neg (by simp)] at hp
     rw [if_pos (decide_eq_true (by omega)),if_pos (by omega)]
     refine asN hj' ?_
     have es3:S p++S l[i]++ByteArray.mk #[(0:UInt8)]=S (p++l[i]++[0]):=by
      rw [S_append p l[i]]; exact S_append _ [0]
     have es2:ByteArray.size (S p++S l[i])=p.length+l[i].length:=by rw [S_append,S_size]; simp
     rw [S_size,S_size,es2,if_neg (by omega),if_neg (by omega)]
     simp only [lt]
     rw [List.length_singleton,if_pos (room8 _ (by omega)),e1,es3]
     refine step _ _ (by omega) ?_
     rw [← hp,poolN_congr (l.drop (i+1)) (l.take (i+1)) (l[i] :: l.take i) fun t=>by
      rw [ht,Bool.eq_iff_iff,List.contains_iff_mem,List.contains_iff_mem,List.mem_append,List.mem_singleton]
      exact ⟨fun h=>List.mem_cons.2 h.symm,fun h=>(List.mem_cons.1 h).symm⟩]
     simp only [List.length_append,List.length_singleton]
     omega
    ·have hc:(l.take i).contains l[i]=true:=by rw [List.contains_iff_mem]; exact m2
     rw [hc,if_pos rfl] at hp
     rw [if_neg (dneg (by omega)),List.length_singleton,if_pos (room8 _ (by omega)),e1]
     refine step p a m1 ?_
     rw [← hp,poolN_congr (l.drop (i+1)) (l.take (i+1)) (l.take i) fun t=>by
      rw [ht,Bool.eq_iff_iff,List.contains_iff_mem,List.contains_iff_mem,List.mem_append,List.mem_singleton]
      exact ⟨fun h=>h.elim id fun h=>h ▸ m2,.inl⟩]
end Go.Proofs.YtbnpclndiichcaaGreatDoor
end
section
set_option linter.unusedVariables false
set_option linter.unusedSimpArgs false
namespace Go.Proofs.YtbnpclndiichcaaGreatDoor
open Go Go.Proofs.YtbnpclndiichcaaGreatDoor.Eng Go.Proofs.YtbnpclndiichcaaGreatDoor.Pl
set_option maxRecDepth 100000
set_option maxHeartbeats 4000000
theorem qHead (v l t y c:Int) {K:Bool→Prop} (h:K (nin l 0 201 && nin t 0 2000 && nin y 1 64 && nin c 1 256 && nin v 1 4)):Xq0x (v,0,0,l,t,y,c,()) K:=by
 unfold Xq0x Yq0x
 have hb:∀ b,b=(nin l 0 201 && nin t 0 2000 && nin y 1 64 && nin c 1 256 && nin v 1 4)→K b:=fun b e=>e ▸ h
 unfold nin at hb
 dsimp only
 simp only [decide_eq_true_eq,show ((0:Int) == 0)=true from rfl,if_true]
 repeat' split
 all_goals first
  |(refine hb _ ?_; symm; rw [Bool.eq_false_iff]; simp only [ne_eq,Bool.and_eq_true,decide_eq_true_eq]; omega)
  |(refine hb _ ?_; symm; simp only [Bool.and_eq_true,decide_eq_true_eq]; omega)
theorem qCount (z:Zn) (h:ZI z) {K:Int×Int×Int×Int×Int×Int×Int×Unit→Bool→Prop} (hk:∀ r,K r (countOk z)):Xq0y (tupZ z) K:=by
 show Xq0y (TV z.ty,RV z.tr,RV z.lp,S z.ft,z.v,()) K
 unfold Xq0y Yq0y
 have hk1:∀ r b,b=countOk z→K r b:=fun r b e=>e ▸ hk r
 refine qNames z (by have:=h.ty; omega) ?_
 refine qPool _ (by have:=h.ty; simp; omega) (fun s hs=>?_) (fun p at' o y hp ha hs=>?_) fun ha p at' o y=>?_
 ·obtain ⟨t,ht,rfl⟩:=List.mem_map.1 hs
  have:=h.nm t ht; omega
 ·rw [if_neg (by simp)]
  dsimp only
  rw [RV_len,RV_len,TV_len]
  refine qHead _ _ _ _ _ ?_
  have e:countOk z=(nin z.lp.length 0 201 && nin z.tr.length 0 2000 && nin z.ty.length 1 64 && nin (poolN [] (z.ty.map (·.2.2)):Nat) 1 256 && nin z.v 1 4):=by
   unfold countOk
   rw [ha,Bool.true_and]
  rw [hs,← e]
  cases hb:countOk z
  ·rw [if_pos (show (!false)=true from rfl)]; exact hk1 _ _ hb.symm
  ·rw [if_neg (by simp)]; exact hk1 _ _ hb.symm
 ·rw [if_pos (show (!false)=true from rfl)]
  refine hk1 _ _ ?_
  unfold countOk
  rw [ha]; simp
theorem qRightZ (z:Zn) (h:ZI z) {K:Bool→Prop} (hk:K (zoneRight z)):Xq1l (tupZ z) K:=by
 show Xq1l (TV z.ty,RV z.tr,RV z.lp,S z.ft,z.v,()) K
 unfold Xq1l Yq1l
 dsimp only
 have hl:=h.lp
 have hty:=h.ty
 have htr:=h.tr
 unfold zoneRight at hk
 refine qCount z h fun r=>?_
 refine qRecRight z.lp h.ri (by omega) ?_
 refine qExpiry z.lp (by omega) fun n=>?_
 cases e1:countOk z
 ·rw [e1] at hk
  rw [if_pos (show (!false)=true from rfl)]
  simpa using hk
 rw [e1] at hk
 rw [if_neg (by simp)]
 cases e2:recRight z.lp
 ·rw [e2] at hk
  rw [if_pos (show (!false)=true from rfl)]
  simpa using hk
 rw [e2] at hk
 rw [if_neg (by simp)]
 have hv:1≤z.v∧z.v≤4:=by
  unfold countOk nin at e1
  simp only [Bool.and_eq_true,decide_eq_true_eq] at e1
  exact e1.2
 have rest:∀ {K:Bool→Prop},K (z.ty.all (fun t=>decide (-89999≤t.1∧t.1≤93599)) && trOk z.ty.length none z.tr && endsOk z) →
   lp (Lq1l_0 Xq0z K) (((),false,0,()),(TV z.ty,RV z.tr,RV z.lp,S z.ft,z.v,()),()):=by
  intro K hk
  refine lp_ind (fun x=>z.ty.length - x.1.2.2.1.toNat) (fun x=>∃ j:Nat,j≤z.ty.length∧x=(((),false,(j:Int),()),(TV z.ty,RV z.tr,RV z.lp,S z.ft,z.v,()),())∧(z.ty.drop j).all (fun t=>decide (-89999≤t.1∧t.1≤93599))=z.ty.all (fun t=>decide (-89999≤t.1∧t.1≤93599))) ?_ ⟨0,by omega,rfl,rfl⟩
  rintro x ⟨j,hj,rfl,ha⟩ k hk2
  unfold Lq1l_0
  dsimp only
  rw [TV_len,Int.toNat_natCast]
  by_cases e:j < z.ty.length
  ·have e1:w64 ((j:Int)+1)=((j+1:Nat):Int):=by rw [w64_in (by omega) (by omega)]; omega
   rw [List.drop_eq_getElem_cons e,List.all_cons] at ha
   rw [if_pos (decide_eq_true (by omega)),if_pos (by omega)]
   refine asT1 e ?_
   rw [if_pos (show 0≤(j:Int)∧(j:Int) < z.ty.length by omega)]
   by_cases c1:(z.ty[j]).1 < -89999
   ·rw [if_pos (decide_eq_true c1)]
    rw [show decide (-89999≤(z.ty[j]).1∧(z.ty[j]).1≤93599)=false by simp; omega,Bool.false_and] at ha
    rw [← ha] at hk; simpa using hk
   rw [if_neg (dneg c1)]
   refine asT1 e ?_
   by_cases c2:(z.ty[j]).1 > 93599
   ·rw [if_pos (decide_eq_true c2)]
    rw [show decide (-89999≤(z.ty[j]).1∧(z.ty[j]).1≤93599)=false by simp; omega,Bool.false_and] at ha
    rw [← ha] at hk; simpa using hk
   rw [if_neg (dneg c2),e1]
   rw [show decide (-89999≤(z.ty[j]).1∧(z.ty[j]).1≤93599)=true by simp; omega,Bool.true_and] at ha
   exact hk2 _ ⟨j+1,e,rfl,ha⟩ (by show z.ty.length - ((j+1:Nat):Int).toNat < z.ty.length - ((j:Nat):Int).toNat; omega)
  ·have:j=z.ty.length:=by omega
   subst this
   rw [if_neg (dneg (by omega))]
   rw [List.drop_length,List.all_nil] at ha
   rw [← ha,Bool.true_and] at hk
   clear hk2 ha
   refine lp_ind (fun x=>z.tr.length - x.1.2.2.1.toNat) (fun x=>∃ (j:Nat) (b:Option Int),j≤z.tr.length∧x=(((),false,(j:Int),()),(TV z.ty,RV z.tr,RV z.lp,S z.ft,z.v,()),())∧trOk z.ty.length b (z.tr.drop j)=trOk z.ty.length none z.tr∧(j=0→b=none)∧(∀ (h0:0 < j) (hj:j - 1 < z.tr.length),b=some (z.tr[j - 1]).1)) ?_ ⟨0,none,by omega,rfl,rfl,fun _=>rfl,fun h=>absurd h (by omega)⟩
   rintro x ⟨j,b,hj,rfl,hok,hb0,hb1⟩ k' hk'
   unfold Lq1l_1
   dsimp only
   rw [RV_len,TV_len,Int.toNat_natCast]
   by_cases e:j < z.tr.length
   ·have e1:w64 ((j:Int)+1)=((j+1:Nat):Int):=by rw [w64_in (by omega) (by omega)]; omega
    rw [List.drop_eq_getElem_cons e] at hok
    have hcons:=trOk_cons z.ty.length b z.tr[j] (z.tr.drop (j+1))
    rw [hok] at hcons
    have bad:¬ ((0≤(z.tr[j]).2∧(z.tr[j]).2 < z.ty.length)∧(∀ a,b=some a→(z.tr[j]).1 > a))→K false:=fun hn=>by
     have:trOk z.ty.length none z.tr=false:=by
      cases hr:trOk z.ty.length none z.tr
      ·rfl
      ·exact absurd (hcons.1 hr).1 hn
     rw [this] at hk; simpa using hk
    have good:((0≤(z.tr[j]).2∧(z.tr[j]).2 < z.ty.length)∧(∀ a,b=some a→(z.tr[j]).1 > a))→k' (((),false,((j+1:Nat):Int),()),(TV z.ty,RV z.tr,RV z.lp,S z.ft,z.v,()),()):=fun hg=>by
     refine hk' _ ⟨j+1,some (z.tr[j]).1,by omega,rfl,?_,fun h=>absurd h (by omega),fun h0 hj=>rfl⟩ ?_
     ·rw [Bool.eq_iff_iff]
      exact ⟨fun hr=>hcons.2 ⟨hg,hr⟩,fun hr=>(hcons.1 hr).2⟩
     ·show z.tr.length - ((j+1:Nat):Int).toNat < z.tr.length - ((j:Nat):Int).toNat
      omega
    rw [if_pos (decide_eq_true (by omega)),if_pos (by omega)]
    refine asR2 e ?_
    by_cases c1:(z.tr[j]).2 < 0
    ·rw [if_pos (decide_eq_true c1)]
     exact bad fun hn=>by omega
    rw [if_neg (dneg c1),if_pos (by omega)]
    refine asR2 e ?_
    by_cases c2:(z.tr[j]).2≥(z.ty.length:Int)
    ·rw [if_pos (decide_eq_true c2)]
     exact bad fun hn=>by omega
    rw [if_neg (dneg c2),e1]
    by_cases c3:j=0
    ·rw [if_neg (dneg (by omega))]
     exact good ⟨⟨by omega,by omega⟩,fun a ha=>by rw [hb0 c3] at ha; cases ha⟩
    ·have e2:w64 ((j:Int) - 1)=((j - 1:Nat):Int):=by rw [w64_in (by omega) (by omega)]; omega
     have hb:=hb1 (by omega) (by omega)
     rw [if_pos (decide_eq_true (by omega)),if_pos (by omega)]
     refine asR1 e ?_
     rw [e2,if_pos (by omega),Int.toNat_natCast]
     refine asR1 (by omega) ?_
     by_cases c4:(z.tr[j]).1≤(z.tr[j - 1]'(by omega)).1
     ·rw [if_pos (decide_eq_true c4)]
      exact bad fun hn=>by have:=hn.2 _ hb; omega
     ·rw [if_neg (dneg c4)]
      exact good ⟨⟨by omega,by omega⟩,fun a ha=>by rw [hb] at ha; cases ha; omega⟩
   ·have:j=z.tr.length:=by omega
    subst this
    rw [if_neg (dneg (by omega))]
    rw [List.drop_length] at hok
    have hok2:trOk z.ty.length none z.tr=true:=hok.symm
    rw [hok2,Bool.true_and] at hk
    rw [S_nil]
    unfold endsOk at hk
    cases e:z.ft.isEmpty
    ·rw [e,Bool.false_or] at hk
     rw [if_neg (by simp)]
     refine rfootParse z.ft (by have:=h.ft; omega) ?_
     have hb:∀ b,b=((Ft.parse z.ft).2 && decide (z.v≥if (oddR (Ft.parse z.ft).1.fr.x || oddR (Ft.parse z.ft).1.to.x)=true then 3 else 2))→K b:=fun b e=>e ▸ hk
     have q1:∀ f:Ft,(tupFt f).2.2.2.2.2.2.2.2.2.2.2.1=f.fr.x:=fun _=>rfl
     have q2:∀ f:Ft,(tupFt f).2.2.2.2.2.2.2.2.2.2.2.2.2.2.2.2.1=f.to.x:=fun _=>rfl
     rw [q1,q2]
     generalize (Ft.parse z.ft).1.fr.x=a at *
     generalize (Ft.parse z.ft).1.to.x=c at *
     generalize (Ft.parse z.ft).2=o at *
     unfold oddR at hb
     cases o
     ·simp only [Bool.false_and,if_false,Bool.false_eq_true] at hb ⊢
      have:=hb _ rfl
      repeat' split
      all_goals exact this
     ·simp only [Bool.true_and,if_true,decide_eq_true_eq,Bool.or_eq_true,Bool.not_eq_true',decide_eq_false_iff_not] at hb ⊢
      repeat' split
      all_goals first
       |(refine hb _ ?_; symm; rw [decide_eq_true_eq]; split <;> omega)
       |(refine hb _ ?_; symm; rw [decide_eq_false_iff_not]; split <;> omega)
       |(refine hb _ ?_; rw [decide_eq_decide]; split <;> omega)
    ·rw [e] at hk
     rw [if_pos rfl]; exact hk
 cases e3:lastExp z.lp
 ·rw [e3] at hk
  rw [if_neg (by simp)]
  exact rest (by simpa [Bool.and_assoc] using hk)
 ·rw [e3] at hk
  rw [if_pos rfl]
  by_cases e6:z.v=4
  ·rw [if_neg (by simpa using e6)]
   have:decide (z.v≥4)=true:=by simp; omega
   rw [this] at hk
   exact rest (by simpa [Bool.and_assoc] using hk)
  ·rw [if_pos (by simpa using e6)]
   have:decide (z.v≥4)=false:=by simp; omega
   rw [this] at hk
   simpa using hk
end Go.Proofs.YtbnpclndiichcaaGreatDoor
end
section
set_option linter.unusedVariables false
set_option linter.unusedSimpArgs false
namespace Go.Proofs.YtbnpclndiichcaaGreatDoor
open Go Go.Proofs.YtbnpclndiichcaaGreatDoor.Eng Go.Proofs.YtbnpclndiichcaaGreatDoor.Pl
set_option maxRecDepth 100000
set_option maxHeartbeats 4000000
theorem qIndex (z:Zn) (hz:ZI z) (hs:Srt z.tr) (a:Int) {K:Int→Prop} (h:K ((indexN z a:Int) - 1)):Xq15 (tupZ z) a K:=by
 show Xq15 (TV z.ty,RV z.tr,RV z.lp,S z.ft,z.v,()) a K
 unfold Xq15 Yq15
 have htr:=hz.tr
 unfold indexN at h
 have hle:=fl_le (fun c:Rec=>decide (c.1 > a)) z.tr
 have hsp:=fl_spec (fun c:Rec=>decide (c.1 > a)) z.tr
 generalize hf:Pl.fl (fun c:Rec=>decide (c.1 > a)) z.tr=f at *
 refine lp_at (fun j=>((a,(),(0:Int),((min j f:Nat):Int) - 1,(j:Int),()),(TV z.ty,RV z.tr,RV z.lp,S z.ft,z.v,()),())) z.tr.length (by simp) fun j hj k hk=>?_
 unfold Lq15_0
 dsimp only
 rw [RV_len,Int.toNat_natCast]
 by_cases e:j < z.tr.length
 ·have e1:w64 ((j:Int)+1)=((j+1:Nat):Int):=by rw [w64_in (by omega) (by omega)]; omega
  rw [if_pos (decide_eq_true (by omega)),if_pos (by omega)]
  refine asR1 e ?_
  have hk':=hk e
  by_cases c:j < f
  ·have:=(hsp j e).1 c
   rw [if_pos (decide_eq_true (by simpa using this)),e1]
   rw [show min (j+1) f=j+1 by omega,show ((j+1:Nat):Int) - 1=(j:Int) by omega] at hk'
   exact hk'
  ·have hfl:f < z.tr.length:=by omega
   have h2:=(hsp f hfl).2 rfl
   have h3:=hs f j hfl e (by omega)
   simp only [decide_eq_true_eq] at h2
   rw [if_neg (dneg (by omega)),e1]
   rw [show min (j+1) f=min j f by omega] at hk'
   exact hk'
 ·rw [if_neg (dneg (by omega))]
  rw [show min j f=f by omega]; exact h
theorem qPosix (z:Zn) (h:ZR z) (a:Int) {K:Int→Prop} (hk:K (posixR z a)):Xq1c (tupZ z) a K:=by
 show Xq1c (TV z.ty,RV z.tr,RV z.lp,S z.ft,z.v,()) a K
 unfold Xq1c Yq1c
 exact qSum z.lp (srt_rec h.all.2.1) (by have:=h.lp; omega) a hk
theorem ok_names {f:Ft} (h:f.ok=true):f.sa.length≤16∧f.wa.length≤16:=by
 unfold Ft.ok kindR abbrL at h
 rw [Bool.and_eq_true] at h
 obtain ⟨h1,h2⟩:=h
 simp only [Bool.and_eq_true,decide_eq_true_eq] at h1
 refine ⟨by omega,?_⟩
 by_cases e:f.has=true
 ·rw [if_pos e] at h2
  simp only [Bool.and_eq_true,decide_eq_true_eq] at h2
  omega
 ·rw [if_neg e] at h2
  have h3:f.bare:=of_decide_eq_true h2
  rw [h3.2.2.1]; simp
theorem qFoot (f:Ft) (p:Int) (hp:-9223372036854775808≤p∧p≤9223372036854775807) (hf:f.ok=true) {K} (h:K (tupT (f.look p))):Xq0q (tupFt f) p K:=by
 obtain ⟨o1,o2,_⟩:=ok_so hf
 obtain ⟨n1,n2⟩:=ok_names hf
 refine rfootLookup f p (by unfold i64; omega) (by unfold i64; omega) (by omega) (by omega) ?_
 unfold Ft.look at h
 by_cases e:f.sum p
 ·rw [if_pos e] at h ⊢; exact h
 ·rw [if_neg e] at h ⊢; exact h
theorem qLookup (z:Zn) (h:ZR z) (a:Int) {K} (hk:K (tupT (lookZ z a))):Xq0k (tupZ z) a K:=by
 unfold Xq0k Yq0k
 refine qIndex z h.toZI h.st a ?_
 have hle:=fl_le (fun c:Rec=>decide (c.1 > a)) z.tr
 have htr:=h.tr
 have h1:=h.one
 unfold lookZ at hk
 have hn:indexN z a=Pl.fl (fun c:Rec=>decide (c.1 > a)) z.tr:=rfl
 rw [← hn] at hle
 generalize indexN z a=m at *
 have e1:w64 ((z.tr.length:Int) - 1)=(z.tr.length:Int) - 1:=w64_in (by omega) (by omega)
 simp only [tupZ_eq,S_nil,TV_len,RV_len,e1]
 have found:¬ (z.ft≠[]∧m=z.tr.length)→(if decide ((m:Int) - 1 < 0)=true then
   (if (0:Int)≤0∧0 < (z.ty.length:Int) then
   (Eng.asInt IntKind.i64 (Eng.getC (TV z.ty) (0:Nat) (0:Nat)) False fun n7 =>
   (Eng.asBool (Eng.getC (TV z.ty) (0:Nat) (1:Nat)) False fun b8 =>
   (Eng.asStr (Eng.getC (TV z.ty) (0:Nat) (2:Nat)) False fun t9=>K (n7,b8,t9,())))) else False)
   else
   (if 0≤(m:Int) - 1∧(m:Int) - 1 < (z.tr.length:Int) then
   (Eng.asInt IntKind.i64 (Eng.getC (RV z.tr) (Int.toNat ((m:Int) - 1)) (1:Nat)) False fun n10 =>
   (if 0≤n10∧n10 < (z.ty.length:Int) then
   (Eng.asInt IntKind.i64 (Eng.getC (TV z.ty) (Int.toNat n10) (0:Nat)) False fun n11 =>
   (Eng.asBool (Eng.getC (TV z.ty) (Int.toNat n10) (1:Nat)) False fun b12 =>
   (Eng.asStr (Eng.getC (TV z.ty) (Int.toNat n10) (2:Nat)) False fun t13=>K (n11,b12,t13,()))))
   else False)) else False)):=fun hno=>by
  rw [if_neg hno] at hk
  by_cases hm:m=0
  ·subst hm
   rw [if_pos (by simp),if_pos (by omega)]
   refine asT1 (by omega) (asT2 (by omega) (asT3 (by omega) ?_))
   have:=headD_at z.ty (0,false,[]) (by omega)
   simp only [List.take_zero,List.getLast?_nil] at hk
   rw [this] at hk
   exact hk
  ·rw [if_neg (by simp; omega),if_pos (by omega)]
   have e2:Int.toNat ((m:Int) - 1)=m - 1:=by omega
   rw [e2]
   refine asR2 (by omega) ?_
   obtain ⟨_,q1,q2⟩:=(trOk_all _ _ _ h.all.2.2.2.2.1).1 (m - 1) (by omega)
   have hl:(z.tr.take m).getLast? = some (z.tr[m - 1]'(by omega)):=by
    rw [List.getLast?_eq_getElem?,List.length_take,Nat.min_eq_left hle,List.getElem?_take,if_pos (by omega),List.getElem?_eq_getElem (by omega)]
   rw [hl] at hk
   simp only at hk
   rw [if_pos ⟨q1,q2⟩]
   refine asT1 (by omega) (asT2 (by omega) (asT3 (by omega) ?_))
   rw [getD_at z.ty _ _ (by omega)] at hk
   exact hk
 cases e:z.ft.isEmpty
 ·have hne:z.ft≠[]:=by
   intro hh; rw [hh] at e; cases e
  rw [if_pos (show (!false)=true from rfl)]
  by_cases hm:m=z.tr.length
  ·rw [if_pos (by simp [hm])]
   rw [if_pos ⟨hne,hm⟩] at hk
   have hp:(Ft.parse z.ft).2=true:=by
    have:=h.all.2.2.2.2.2
    unfold endsOk at this
    rw [e] at this
    simp only [Bool.false_or,Bool.and_eq_true] at this
    exact this.1
   refine rfootParse z.ft (by have:=h.ft; omega) ?_
   refine qPosix z h a ?_
   exact qFoot _ _ (w64_rng _) (parse_ok _ hp) hk
  ·rw [if_neg (by simp; omega)]
   exact found fun hh=>hm hh.2
 ·have hne:z.ft=[]:=by
   cases hz:z.ft with
   | nil=>rfl
   | cons x r=>rw [hz] at e; cases e
  rw [if_neg (by simp)]
  exact found fun hh=>hh.1 hne
end Go.Proofs.YtbnpclndiichcaaGreatDoor
end
section
set_option linter.unusedVariables false
set_option linter.unusedSimpArgs false
namespace Go.Proofs.YtbnpclndiichcaaGreatDoor
open Go Go.Proofs.YtbnpclndiichcaaGreatDoor.Eng Go.Proofs.YtbnpclndiichcaaGreatDoor.Pl
set_option maxRecDepth 100000
set_option maxHeartbeats 4000000
def stp1:Int→List Rec→Prop
 | _,[]=>True
 | s,c :: r=>(-1≤c.2 - s∧c.2 - s≤1)∧stp1 c.2 r
theorem stp1_of:∀ (l:List Rec) (k:Nat) (b:Rec),recOk k b l=true→stp1 b.2 l
 | [],k,b,h=>trivial
 | c :: r,k,b,h=>by
  simp only [recOk,Bool.and_eq_true,Bool.or_eq_true,decide_eq_true_eq] at h
  obtain ⟨⟨⟨⟨_,_⟩,hs⟩,_⟩,hr⟩:=h
  refine ⟨?_,stp1_of r _ _ hr⟩
  rcases hs with (hs | hs) | hs
  ·have:=hs.1; omega
  ·omega
  ·omega
theorem stp1_take:∀ (n:Nat) (l:List Rec) (s:Int),stp1 s l→stp1 s (l.take n)
 | 0,l,s,h=>by rw [List.take_zero]; trivial
 | n+1,[],s,h=>trivial
 | n+1,c :: r,s,h=>⟨h.1,stp1_take n r _ h.2⟩
theorem stp1_leaps {l:List Rec} (hr:recRight l=true):stp1 0 (leapsR l):=by
 have:=stp1_of l 0 _ hr
 unfold leapsR
 split
 ·exact stp1_take _ _ _ this
 ·exact this
theorem rTable (l:List Rec) (hr:recRight l=true) (hi:recI l) {K:_→Bool→List V→Bool→Bool→Prop}
  (h:∀ o f,K ((),(tabT l).1.has,(tabT l).1.ex,()) (tabT l).2 (TLV (tabT l).1.ls) o f):Xq10 (RV l) K:=by
 unfold Xq10 Yq10
 have hlen:=recOk_len l hr
 have hb:recB l:=recB_of hr fun c hc=>(hi c hc).1.2
 have hb':recB (leapsR l):=fun c hc=>hb c (leapsR_sub hc)
 have hll:(leapsR l).length≤l.length:=by rw [leapsR_len]; split <;> omega
 have hs1:=stp1_leaps hr
 refine qLeaps l (by omega) ?_
 refine lp_ind (fun x=>(leapsR l).length - x.1.2.2.2.2.2.2.1.toNat) (fun x=>∃ (j:Nat) (ls:List LR) (s:Int),j≤(leapsR l).length∧ls.length=j∧(-300≤s∧s≤300)∧s=stepsL ls∧stp1 s ((leapsR l).drop j) ∧
  tabG 0 (leapsR l)=(tabG s ((leapsR l).drop j)).map (ls++·)∧x=((RV l,(),false,(),((leapsR l).length:Int),s,(j:Int),()),((),false,0,()),((),false,0,()),TLV ls,())) ?_
  ⟨0,[],0,by omega,rfl,by omega,rfl,by rw [List.drop_zero]; exact hs1,by rw [List.drop_zero]; cases tabG 0 (leapsR l) <;> simp,rfl⟩
 rintro x ⟨j,ls,s,hj,hls,hs,hss,hst,htab,rfl⟩ k hk
 unfold Lq10_0
 simp only [RV_len,Int.toNat_natCast]
 by_cases e:j < (leapsR l).length
 ·have hx:0≤(j:Int)∧(j:Int) < (l.length:Int):=by omega
  rw [if_pos (decide_eq_true (by omega)),if_pos hx]
  have ejl:j < l.length:=by omega
  refine asR2 ejl ?_
  rw [if_pos hx]
  refine asR1 ejl ?_
  have eg:=leaps_get l j e ejl
  have hc:=hb' _ (List.getElem_mem e)
  rw [List.drop_eq_getElem_cons e] at htab hst
  rw [eg] at htab hst hc
  have last:∀ F:Prop,∀ {Q:Int→Prop},Q (l[j]).2→(if 0≤(j:Int)∧(j:Int) < (l.length:Int) then Eng.asInt .i64 (getC (RV l) j 1) F Q else False):=fun F Q hQ=>by
   rw [if_pos hx]; exact asR2 ejl hQ
  generalize l[j]=c at *
  have e1:w64 (c.2 - s)=c.2 - s:=w64_in (by omega) (by omega)
  have hsc:=hst.1
  have hxb:-9223372036854775808≤tabX s c∧tabX s c≤9223372036854775807:=w64_bd _
  have e3:w64 ((j:Int)+1)=((j+1:Nat):Int):=by rw [w64_in (by omega) (by omega)]; omega
  rw [tabG] at htab
  have step:tabX s c % 86400=0→(if roomOk ((TLV ls).length+1) 24=true then (if 0≤(j:Int)∧(j:Int) < (l.length:Int) then Eng.asInt .i64 (getC (RV l) j 1) False fun n=>k ((RV l,(),false,(),((leapsR l).length:Int),n,w64 ((j:Int)+1),()),((),false,0,()),((),false,0,()),TLV (ls++[(tabX s c / 86400 - 1,c.2 - s,false)]),()) else False) else False):=fun hm=>by
   rw [if_pos (room24 _ (by rw [TLV_len]; omega))]
   refine last False ?_
   rw [if_pos hm] at htab
   rw [e3]
   refine hk _ ⟨j+1,ls++[(tabX s c / 86400 - 1,c.2 - s,false)],c.2,e,by simp [hls],⟨hc.2.2.1,hc.2.2.2⟩,?_,hst.2,?_,rfl⟩ ?_
   ·rw [stepsL_app,← hss]; simp [stepsL]; omega
   ·rw [htab,Option.map_map]
    congr 1
    funext y
    simp
   ·show (leapsR l).length - ((j+1:Nat):Int).toNat < (leapsR l).length - ((j:Nat):Int).toNat
    omega
  have no:¬ tabX s c % 86400=0→K ((),false,0,()) false [] true true:=fun hm=>by
   rw [if_neg hm] at htab
   have ht:tabT l=(tb0,false):=by unfold tabT; rw [htab]; rfl
   rw [ht] at h
   exact h true true
  simp only [lt,e1]
  by_cases neg:c.2 - s < 0
  ·have hx:w64 (w64 (c.1 - s)+1)=tabX s c:=by
    unfold tabX; rw [show min (c.2 - s) 0=-1 by omega]; congr 1
   rw [if_pos (decide_eq_true neg),hx]
   refine rdiv _ _ hxb.1 hxb.2 (by decide) (by decide) ?_
   have e2:w64 (tabX s c / 86400 - 1)=tabX s c / 86400 - 1:=w64_in (by omega) (by omega)
   by_cases hm:tabX s c % 86400=0
   ·rw [if_neg (by simp [hm]),e2,tlv_snoc]
    exact step hm
   ·rw [if_pos (by simpa using hm)]; exact no hm
  ·have hx:w64 (c.1 - s)=tabX s c:=by
    unfold tabX; rw [show min (c.2 - s) 0=0 by omega,Int.sub_zero]
    have:=w64_bd (c.1 - s)
    rw [w64_in (n:=w64 (c.1 - s)) this.1 this.2]
   rw [if_neg (dneg neg),hx]
   refine rdiv _ _ hxb.1 hxb.2 (by decide) (by decide) ?_
   have e2:w64 (tabX s c / 86400 - 1)=tabX s c / 86400 - 1:=w64_in (by omega) (by omega)
   by_cases hm:tabX s c % 86400=0
   ·rw [if_neg (by simp [hm]),e2,tlv_snoc]
    exact step hm
   ·rw [if_pos (by simpa using hm)]; exact no hm
 have hj':j=(leapsR l).length:=by omega
 subst hj'
 rw [if_neg (dneg (by omega))]
 rw [List.drop_length,tabG] at htab
 simp only [Option.map_some,List.append_nil] at htab
 have ht:tabT l=if rightT (tabE l ls)=true then (tabE l ls,true) else (tb0,false):=by unfold tabT; rw [htab]
 rw [leapsR_len] at hls ⊢
 have fin:∀ (o f:Bool),Xq0t (TLV ls,(tabE l ls).has,(tabE l ls).ex,()) (fun r=>if (!r)=true then K ((),false,0,()) false [] true true else K ((),(tabE l ls).has,(tabE l ls).ex,()) true (TLV ls) o f):=fun o f=>by
  refine qRightT (tabE l ls) (by show ls.length≤1000000; split at hls <;> omega) ?_
  cases hq:rightT (tabE l ls)
  ·rw [if_pos (by rfl)]
   rw [hq] at ht
   rw [ht] at h
   exact h true true
  ·rw [if_neg (by simp)]
   rw [hq,if_pos rfl] at ht
   rw [ht] at h
   exact h o f
 cases hle:lastExp l
 ·have hE:tabE l ls=⟨ls,false,0⟩:=by unfold tabE; rw [hle]; simp
  rw [hE] at fin
  simp only [Bool.false_eq_true,if_false]
  rw [if_neg (dneg (by omega))]
  exact fin true false
 ·have hp:=lastExp_pos hle
  have hE:tabE l ls=⟨ls,true,w64 ((l.getD (l.length - 1) (0,0)).1 - s)⟩:=by unfold tabE; rw [hle,hss]; simp
  rw [hE] at fin
  try simp only [if_true]
  rw [if_pos (decide_eq_true (by omega)),if_pos (by omega)]
  try simp only [Int.toNat_natCast]
  refine asR1 (show l.length - 1 < l.length by omega) ?_
  rw [getD_at _ _ _ (show l.length - 1 < l.length by omega)] at fin
  exact fin true false
def tabQ (l:List Rec):Tb:=if recRight l=true then (tabT l).1 else tb0
theorem tabQ_known {l:List Rec} (h:knownR l=true):tabQ l=(tabT l).1:=by
 unfold tabQ; rw [if_pos (known_right h).1]
theorem rtable22 (l:List Rec) (hi:recI l) (hl:l.length≤100000) {K:_→Bool→List V→Bool→Bool→Prop}
  (h:∀ o f,K ((),(tabQ l).has,(tabQ l).ex,()) (knownR l) (TLV (tabQ l).ls) o f):Xq0w (RV l) K:=by
 unfold Xq0w Yq0w
 unfold knownR tabQ at h
 refine qRecRight l hi hl ?_
 cases hr:recRight l
 ·rw [if_pos (by rfl)]
  rw [hr] at h; exact h true true
 ·rw [if_neg (by simp)]
  rw [hr,Bool.true_and,if_pos rfl] at h
  exact rTable l hr hi fun o f=>h o f
theorem rKnown22 (l:List Rec) (hi:recI l) (hl:l.length≤100000) {K:Bool→Prop} (h:K (knownR l)):Xq1d (RV l) K:=by
 unfold Xq1d Yq1d
 exact rtable22 l hi hl fun o f=>h
theorem qExpV (l:List Rec) (hl:l.length≤100000) {K:Int→Bool→Prop} (h:K (expV l) (lastExp l)):Xq0m (RV l) K:=by
 unfold Xq0m Yq0m
 refine qLeaps l hl ?_
 unfold expV at h
 rw [RV_len,leapsR_len]
 cases e:lastExp l
 ·rw [e] at h
  rw [if_neg (by simp:¬ (false=true)),if_pos (by simp)]
  exact h
 ·have:=lastExp_pos e
  rw [e,if_pos rfl,getD_at _ _ _ (show l.length - 1 < l.length by omega)] at h
  rw [if_pos (rfl:true=true),if_neg (by simp; omega),if_pos (by omega),Int.toNat_natCast]
  exact asR1 (by omega) h
theorem expV_bd {l:List Rec} (hk:knownR l=true) (hi:recI l):0≤expV l∧expV l≤9223372036854775807:=by
 unfold expV
 split
 ·rename_i e
  have:=lastExp_pos e
  have hb:=recB_of (known_right hk).1 fun c hc=>(hi c hc).1.2
  rw [getD_at _ _ _ (show l.length - 1 < l.length by omega)]
  have:=hb _ (List.getElem_mem (show l.length - 1 < l.length by omega))
  omega
 ·omega
theorem rEnd (l:List Rec) (hi:recI l) (hl:l.length≤100000) {K:Int→Bool→Prop} (h1:knownR l=true→lastExp l=true→K (expV l - 63072000) true) (h2:knownR l=true→lastExp l=false→K 0 false) (h3:knownR l=false→K 0 false):Xq2i (RV l) K:=by
 unfold Xq2i Yq2i
 refine rtable22 l hi hl fun o f=>?_
 refine qExpV l hl ?_
 cases hk:knownR l
 ·rw [if_pos (by rfl)]; exact h3 hk
 rw [if_neg (by simp)]
 cases he:lastExp l
 ·rw [if_pos (by rfl)]; exact h2 hk he
 rw [if_neg (by simp)]
 have:=expV_bd hk hi
 rw [w64_in (by omega) (by omega)]
 exact h1 hk he
theorem utc_uniq {t:Tb} (h:TU t) {a D s:Int} (he:strt t.ls D+s=a) (hs:0≤s∧s < 86400+stepD t.ls D):utcD (recAll zn0 t) a=D∧utcS (recAll zn0 t) a=s:=by
 obtain ⟨u1,u2,u3,_⟩:=utc_strt h a
 exact strt_uniq h (by omega) ⟨u2,u3⟩ hs
theorem rUtc22 (l:List Rec) (hi:recI l) (hl:l.length≤1000) (t:Int) (ht:i64r t) {K:Int→Int→Int→Prop} (h:K (utcR l t).1 (utcR l t).2.1 (utcR l t).2.2):Xq2e (RV l) t K:=by
 unfold Xq2e Yq2e
 unfold i64r at ht
 unfold utcR at h
 refine rtable22 l hi (by omega) fun o f=>?_
 cases hk:knownR l
 ·rw [if_pos (by rfl)]
  rw [hk,if_pos rfl] at h; exact h
 rw [if_neg (by simp)]
 rw [hk,if_neg (by simp)] at h
 by_cases h0:t < 0
 ·rw [if_pos (decide_eq_true h0)]
  rw [if_pos h0] at h; exact h
 rw [if_neg (dneg h0)]
 rw [if_neg h0] at h
 obtain ⟨hr,htab⟩:=known_right hk
 obtain ⟨tu,hla⟩:=tab_rec (recB_of hr fun c hc=>(hi c hc).1.2) htab
 have hexp:=expV_bd hk hi
 rw [tabQ_known hk]
 have hlen:=tu.len
 have hsum:=tu.sum
 -- the loop,where the end is not reached
 have go:(pastR l (t+63072000)=false∨¬ t+63072000≤9223372036854775807∧pastR l 9223372036854775807=false) →
   Eng.lp (Lq2e_0 K) ((0,0,0,(),t,730,0,()),((),(tabT l).1.has,(tabT l).1.ex,()),(TLV (tabT l).1.ls,o,f),()):=fun hp=>by
  have out:∀ D s,strt (tabT l).1.ls D+s=t+63072000→(0≤s∧s < 86400+stepD (tabT l).1.ls D)→(if D > 2932896 then K 0 0 9 else K D s 0):=fun D s hD hs=>by
   obtain ⟨u1,u2⟩:=utc_uniq tu hD hs
   rw [← hla] at u1 u2
   by_cases hf:t+63072000≤9223372036854775807
   ·rw [if_pos hf] at h
    have hp:pastR l (t+63072000)=false:=by
                            rcases hp with hp | hp; · exact hp
                            ·exact absurd hf hp.1
    rw [hp,if_neg (by simp),u1,u2] at h
    by_cases hd:D > 2932896
    ·rw [if_pos hd] at h ⊢; exact h
    ·rw [if_neg hd] at h ⊢; exact h
   ·rw [if_neg hf] at h
    have hq:pastR l 9223372036854775807=false:=by
     rcases hp with hp | hp
     ·unfold pastR at hp ⊢
      rw [Bool.and_eq_false_iff] at hp ⊢
      rcases hp with hp | hp
      ·exact .inl hp
      ·rw [decide_eq_false_iff_not] at hp; omega
     ·exact hp.2
    rw [hq,if_neg (by simp)] at h
    have hst:strt (tabT l).1.ls D=D * 86400+sumT (tabT l).1.ls (cntD (tabT l).1.ls D):=rfl
    have:=hsum (cntD (tabT l).1.ls D)
    have:=stepD_bd tu D
    rw [if_pos (by omega)]; exact h
  generalize hT:(tabT l).1=T at *
  refine lp_ind (fun x=>T.ls.length - x.1.2.2.2.2.2.2.1.toNat) (fun x=>∃ (j:Nat) (d a:Int),j≤T.ls.length∧(730≤d∧d≤2932900)∧(0≤a∧a≤t)∧a=t+63072000 - d * 86400 - sumT T.ls j∧(∀ i (hi:i < T.ls.length),i < j↔(T.ls[i]).1 < d) ∧
   x=((0,0,0,(),a,d,(j:Int),()),((),T.has,T.ex,()),(TLV T.ls,o,f),())) ?_
   ⟨0,730,t,by omega,by omega,by omega,by show t=t+63072000 - 730 * 86400 - sumT T.ls 0; unfold sumT; simp [stepsL],fun i hi=>by have:=tu.day hi; omega,rfl⟩
  rintro x ⟨j,d,a,hj,hd,⟨ha,hat⟩,hae,hcnt,rfl⟩ k hk'
  unfold Lq2e_0
  dsimp only
  rw [TLV_len,Int.toNat_natCast]
  have hsj:=hsum j
  have cap:a≤9223372036854775807:=by omega
  have fin:∀ D,D=d+a / 86400→(∀ i (hi:i < T.ls.length),i < j↔(T.ls[i]).1 < D)→(∀ i (hi:i < T.ls.length),(T.ls[i]).1≠D)→(if decide (w64 (d+w64 (Int.tdiv a 86400)) > 2932896)=true then K 0 0 9 else K (w64 (d+w64 (Int.tdiv a 86400))) (Int.tmod a 86400) 0):=fun D hD hc hne=>by
   rw [Int.tdiv_eq_ediv_of_nonneg ha,Int.tmod_eq_emod_of_nonneg ha,w64_in (n:=a / 86400) (by omega) (by omega),w64_in (by omega) (by omega),← hD]
   have hcd:=cnt_of tu hj hc
   have h1:stepD T.ls D=0:=by
    rcases stepD_val tu D with ⟨i,hi,_,q,_⟩ | ⟨_,q⟩
    ·exact absurd q (hne i hi)
    ·exact q
   have:=out D (a % 86400) (by unfold strt; rw [hcd]; omega) (by rw [h1]; omega)
   by_cases hg:D > 2932896
   ·rw [if_pos (decide_eq_true hg)]; rw [if_pos hg] at this; exact this
   ·rw [if_neg (dneg hg)]; rw [if_neg hg] at this; exact this
  by_cases e:j < T.ls.length
  ·have hx:0≤(j:Int)∧(j:Int) < (T.ls.length:Int):=by omega
   rw [if_pos (decide_eq_true (by omega)),if_pos hx]
   refine asL1 e ?_
   have hday:=tu.day e
   have hge:d≤(T.ls[j]).1:=by
    have:=(hcnt j e); omega
   have hasc:=fun i (hi:i < T.ls.length) (hij:j < i)=>right_days tu.r j i e hi hij
   have hjs:(T.ls[j]).2.1=Pl.stepT T.ls j:=by
    unfold Pl.stepT; rw [List.getD,List.getElem?_eq_getElem e,Option.getD_some]
   have hjp:=tu.stp e
   rw [← hjs] at hjp
   simp only [lt]
   have w1:w64 (86400 * w64 ((T.ls[j]).1 - d))=86400 * ((T.ls[j]).1 - d):=by rw [w64_in (n:=(T.ls[j]).1 - d) (by omega) (by omega),w64_in (by omega) (by omega)]
   rw [w1]
   by_cases c1:a < 86400 * ((T.ls[j]).1 - d)
   ·rw [if_pos (decide_eq_true c1)]
    refine fin _ rfl (fun i hi=>?_) (fun i hi=>?_)
    ·have:=hcnt i hi
     constructor
     ·intro q; have:=this.1 q; omega
     ·intro q
      rcases Nat.lt_or_ge i j with r | r
      ·exact r
      ·rcases Nat.eq_or_lt_of_le r with r | r
       ·subst r; omega
       ·have:=hasc i hi r; omega
    ·have:=hcnt i hi
     rcases Nat.lt_or_ge i j with r | r
     ·have:=this.1 r; omega
     ·rcases Nat.eq_or_lt_of_le r with r | r
      ·subst r; omega
      ·have:=hasc i hi r; omega
   ·rw [if_neg (dneg c1),if_pos hx]
    refine asL1 e ?_
    rw [if_pos hx]
    refine asL2 e ?_
    have w2:w64 (a - 86400 * ((T.ls[j]).1 - d))=a - 86400 * ((T.ls[j]).1 - d):=w64_in (by omega) (by omega)
    have w3:w64 (86400+(T.ls[j]).2.1)=86400+(T.ls[j]).2.1:=w64_in (by omega) (by omega)
    rw [w2,w3]
    have hcj:cntD T.ls (T.ls[j]).1=j:=cnt_of tu hj fun i hi=>by
     have:=hcnt i hi
     constructor
     ·intro q; have:=this.1 q; omega
     ·intro q
      rcases Nat.lt_or_ge i j with r | r
      ·exact r
      ·rcases Nat.eq_or_lt_of_le r with r | r
       ·subst r; omega
       ·have:=hasc i hi r; omega
    by_cases c2:a - 86400 * ((T.ls[j]).1 - d) < 86400+(T.ls[j]).2.1
    ·rw [if_pos (decide_eq_true c2)]
     have h1:stepD T.ls (T.ls[j]).1=(T.ls[j]).2.1:=by
      rcases stepD_val tu (T.ls[j]).1 with ⟨i,hi,q1,q2,q3⟩ | ⟨q,_⟩
      ·rw [q3,hjs,← q1,hcj]
      ·exact absurd rfl (q j e)
     have:=out (T.ls[j]).1 (a - 86400 * ((T.ls[j]).1 - d)) (by unfold strt; rw [hcj]; omega) (by rw [h1]; omega)
     rw [if_neg (by omega)] at this
     exact this
    ·rw [if_neg (dneg c2),if_pos hx]
     refine asL2 e ?_
     have w4:w64 (w64 (a - 86400 * ((T.ls[j]).1 - d) - 86400) - (T.ls[j]).2.1)=a - 86400 * ((T.ls[j]).1 - d) - 86400 - (T.ls[j]).2.1:=by
      rw [w64_in (n:=a - 86400 * ((T.ls[j]).1 - d) - 86400) (by omega) (by omega),w64_in (by omega) (by omega)]
     have w5:w64 ((T.ls[j]).1+1)=(T.ls[j]).1+1:=w64_in (by omega) (by omega)
     have w6:w64 ((j:Int)+1)=((j+1:Nat):Int):=by rw [w64_in (by omega) (by omega)]; omega
     rw [w4,w5,w6]
     refine hk' _ ⟨j+1,(T.ls[j]).1+1,_,e,by omega,by omega,?_,fun i hi=>?_,rfl⟩ (by show T.ls.length - ((j+1:Nat):Int).toNat < T.ls.length - ((j:Nat):Int).toNat; omega)
     ·rw [sumT_succ e,← hjs]; omega
     ·have:=hcnt i hi
      constructor
      ·intro q
       rcases Nat.lt_or_ge i j with r | r
       ·have:=this.1 r; omega
       ·have:i=j:=by omega
        subst this; omega
      ·intro q
       rcases Nat.lt_or_ge i j with r | r
       ·omega
       ·rcases Nat.eq_or_lt_of_le r with r | r
        ·omega
        ·have:=hasc i hi r; omega
  ·have:j=T.ls.length:=by omega
   subst this
   rw [if_neg (dneg (by omega))]
   simp only [lt]
   refine fin _ rfl (fun i hi=>?_) (fun i hi=>?_)
   ·have:=hcnt i hi; omega
   ·have:=hcnt i hi; omega
 refine rEnd l hi (by omega) (fun _ he=>?_) (fun _ he=>?_) (fun q=>by rw [hk] at q; cases q)
 ·rw [if_pos rfl]
  have hpe:∀ a,pastR l a=decide (a≥expV l):=fun a=>by unfold pastR; rw [he,Bool.true_and]
  by_cases c:t≥expV l - 63072000
  ·rw [if_pos (decide_eq_true c)]
   by_cases hf:t+63072000≤9223372036854775807
   ·rw [if_pos hf,hpe,decide_eq_true (by omega),if_pos rfl] at h; exact h
   ·rw [if_neg hf,hpe,decide_eq_true (by omega),if_pos rfl] at h; exact h
  ·rw [if_neg (dneg c)]
   refine go (.inl ?_)
   rw [hpe,decide_eq_false_iff_not]; omega
 ·rw [if_neg (by simp)]
  exact go (.inl (by unfold pastR; rw [he]; rfl))
theorem rOf (d s:Int) (hd:-719162≤d∧d≤2932896) (hs:0≤s∧s≤86400) {K:Int→Bool→Prop} (h:K (ofP d s) true):Xq2p d s K:=by
 unfold Xq2p Yq2p
 unfold ofP at h
 rw [if_neg (dneg (by omega)),if_neg (dneg (by omega)),if_neg (dneg (by omega)),if_neg (dneg (by omega))]
 simp only [lt]
 have:(if 86399 < s then 86399 else s)=min s 86399:=by split <;> omega
 rw [this,w64_in (n:=86400 * d) (by omega) (by omega),w64_in (by omega) (by omega),Int.mul_comm]
 exact h
theorem rFrom23 (l:List Rec) (hi:recI l) (hl:l.length≤1000) (t:Int) (ht:i64r t) {K:Int→Int→Prop} (h:K (fromR l t).1 (fromR l t).2):Xq1n (RV l) t K:=by
 unfold Xq1n Yq1n
 refine rUtc22 l hi hl t ht ?_
 unfold fromR at h
 by_cases e:(utcR l t).2.2=0
 ·rw [if_pos e] at h
  rw [if_neg (by simpa using e)]
  obtain ⟨u1,u2,u3,u4,u5,tu⟩:=utc_bd hi e
  have:=stepD_bd tu (utcR l t).1
  exact rOf _ _ (by omega) (by omega) h
 ·rw [if_neg e] at h
  rw [if_pos (by simpa using e)]
  exact h
theorem rDay23 (p:Int) (hp:i64r p) {K:Int→Int→Prop} (h:K (p / 86400) (p % 86400)):Xq23 p K:=by
 unfold Xq23 Yq23
 exact rdiv p 86400 hp.1 hp.2 (by decide) (by decide) h
theorem rKnown24 (z:Zn) (hz:ZI z) {K:Bool→Prop} (h:K (knownZ z)):Xq17 (tupZ z) K:=by
 unfold Xq17 Yq17
 unfold knownZ at h
 refine qRightZ z hz ?_
 have hl:=hz.lp
 show Xq1d (RV z.lp) _
 refine rKnown22 z.lp hz.ri (by omega) ?_
 cases hr:zoneRight z
 ·rw [if_neg (by simp)]
  rw [hr] at h; exact h
 ·rw [if_pos rfl]
  rw [hr,Bool.true_and] at h; exact h
theorem rCivil (z:Zn) (hz:ZI z) (t:Int) (ht:i64r t) {K:_→Int→Prop} (h:K (tupC (civR z t).1) (civR z t).2):Xq0u (tupZ z) t K:=by
 unfold Xq0u Yq0u
 refine rKnown24 z hz ?_
 unfold civR at h
 cases hk:knownZ z
 ·rw [hk,if_pos rfl] at h
  rw [if_pos (by rfl)]; exact h
 rw [hk,if_neg (by simp)] at h
 rw [if_neg (by simp)]
 obtain ⟨hr,hkr⟩:=knownZ_iff hk
 have hl:=hz.lp
 show Xq2e (RV z.lp) t _
 refine rUtc22 z.lp hz.ri (by omega) t ht ?_
 by_cases hu:(utcR z.lp t).2.2≠0
 ·rw [if_pos hu] at h
  rw [if_pos (by simpa using hu)]; exact h
 rw [if_neg hu] at h
 rw [if_neg (by simpa using hu)]
 have hu:(utcR z.lp t).2.2=0:=by omega
 obtain ⟨f1,f2,f3,f4,f5⟩:=from_val hz.ri hu
 show Xq1n (RV z.lp) t _
 refine rFrom23 z.lp hz.ri (by omega) t ht ?_
 rw [w64_in (n:=t+63072000) (by omega) (by omega)]
 refine qLookup z ⟨hz,hr⟩ _ ?_
 have ho:=off_of hr (t+63072000)
 have hq:(fromR z.lp t).1+(tupT (lookZ z (t+63072000))).1=civQ z t:=rfl
 have hqb:-719162 * 86400≤civQ z t∧civQ z t≤253402400000:=by
  unfold civQ; rw [f1]; simp only; omega
 rw [hq,w64_in (n:=civQ z t) (by omega) (by omega)]
 refine rDay23 _ (by unfold i64r; omega) ?_
 by_cases hd:-719162≤civQ z t / 86400∧civQ z t / 86400≤2932896
 ·rw [if_pos hd] at h
  rw [if_neg (dneg (by omega)),if_neg (dneg (by omega))]
  rw [Int.tdiv_eq_ediv_of_nonneg (a:=civQ z t % 86400) (by omega),Int.tdiv_eq_ediv_of_nonneg (a:=civQ z t % 86400) (by omega),Int.tmod_eq_emod_of_nonneg (a:=civQ z t % 86400) (by omega),w64_in (n:=civQ z t % 86400 / 3600) (by omega) (by omega),w64_in (n:=civQ z t % 86400 / 60) (by omega) (by omega),Int.tmod_eq_emod_of_nonneg (a:=civQ z t % 86400 / 60) (by omega)]
  unfold civC at h
  by_cases hs:(utcR z.lp t).2.1=86400
  ·rw [if_pos hs] at h
   rw [if_pos (by simpa using hs),w64_in (by omega) (by omega)]; exact h
  ·rw [if_neg hs,Int.add_zero] at h
   rw [if_neg (by simpa using hs)]; exact h
 ·rw [if_neg hd] at h
  by_cases hd1:civQ z t / 86400 < -719162
  ·rw [if_pos (decide_eq_true hd1)]; exact h
  ·rw [if_neg (dneg hd1),if_pos (decide_eq_true (by omega))]; exact h
theorem rShow (z:Zn) (hz:ZI z) (t:Int) (ht:i64r t) {K:_→Int→Prop} (h:K (S (showR z t).1) (showR z t).2):Xq1y (tupZ z) t K:=by
 unfold Xq1y Yq1y
 refine rCivil z hz t ht ?_
 unfold showR at h
 have hab:=civ_ab hz t
 by_cases e:(civR z t).2=0
 ·rw [if_pos e] at h
  rw [if_neg (by simpa using e)]
  exact rText24 _ (by omega) h
 ·rw [if_neg e] at h
  rw [if_pos (by simpa using e)]; exact h
end Go.Proofs.YtbnpclndiichcaaGreatDoor
end
section
set_option linter.unusedVariables false
set_option linter.unusedSimpArgs false
namespace Go.Proofs.YtbnpclndiichcaaGreatDoor
open Go Go.Proofs.YtbnpclndiichcaaGreatDoor.Eng Go.Proofs.YtbnpclndiichcaaGreatDoor.Pl
set_option maxRecDepth 100000
set_option maxHeartbeats 4000000
theorem show_win {z:Zn} (hz:ZI z) {u:Int} {s:List UInt8} (h:showR z u=(s,0)):secC (cparseL s).1 - 63072000 - 200≤u∧u≤secC (cparseL s).1 - 63072000+200:=by
 obtain ⟨cu,_,pu⟩:=show_ok h
 obtain ⟨f1,f2,f3,f4,f5⟩:=from_val hz.ri cu.u
 obtain ⟨u1,u2,u3,u4,u5,tu⟩:=utc_bd hz.ri cu.u
 have hsec:secC (cparseL s).1=(fromR z.lp u).1+insT z u:=by
  rw [pu]; exact civ_sec z u
 have hst:strt (tabT z.lp).1.ls (utcR z.lp u).1=(utcR z.lp u).1 * 86400+sumT (tabT z.lp).1.ls (cntD (tabT z.lp).1.ls (utcR z.lp u).1):=rfl
 have:=tu.sum (cntD (tabT z.lp).1.ls (utcR z.lp u).1)
 have:=stepD_bd tu (utcR z.lp u).1
 rw [hsec,f1]
 unfold insT ofP
 simp only
 split <;> omega
theorem rRead24 (z:Zn) (hz:ZI z) (s:List UInt8) {K:Int→Int→Prop} (h:K (readR z s).1 (readR z s).2):Xq1q (tupZ z) (S s) K:=by
 unfold Xq1q Yq1q
 refine rKnown24 z hz ?_
 have hrd:knownZ z=true→(cparseL s).2=true→(∃ u,readR z s=(u,0)∧showR z u=(s,0))∨readR z s=(0,11):=fun a b=>by
  unfold readR
  rw [a,if_neg (by simp),b,if_neg (by simp)]
  split
  ·rename_i q; exact .inl ⟨_,rfl,q⟩
  ·split
   ·rename_i q; exact .inl ⟨_,rfl,q⟩
   ·exact .inr rfl
 cases hk:knownZ z
 ·rw [if_pos (by rfl)]
  unfold readR at h
  rw [hk,if_pos rfl] at h; exact h
 rw [if_neg (by simp)]
 refine rParse24 s ?_
 cases hp:(cparseL s).2
 ·rw [if_pos (by rfl)]
  unfold readR at h
  rw [hk,if_neg (by simp),hp,if_pos rfl] at h; exact h
 rw [if_neg (by simp)]
 have hrd:=hrd hk hp
 obtain ⟨oc,_,_⟩:=ctext_parse hp
 have hwin:=fun {u:Int} (q:showR z u=(s,0))=>show_win hz q
 obtain ⟨o1,o2,o3,o4,o5,o6⟩:=okC_iff.1 oc
 generalize (cparseL s).1=c at *
 unfold tupC
 dsimp only
 simp only [lt]
 have w:w64 (w64 (w64 (w64 (w64 (w64 (w64 (86400 * c.d)+w64 (3600 * c.h))+w64 (60 * c.m))+c.s) - c.off) - 63072000) - 300)=secC c - 63072000 - 300:=by
  unfold secC
  rw [w64_in (n:=86400 * c.d) (by omega) (by omega),w64_in (n:=3600 * c.h) (by omega) (by omega),w64_in (n:=60 * c.m) (by omega) (by omega),w64_in (n:=86400 * c.d+3600 * c.h) (by omega) (by omega),w64_in (n:=86400 * c.d+3600 * c.h+60 * c.m) (by omega) (by omega),
   w64_in (n:=86400 * c.d+3600 * c.h+60 * c.m+c.s) (by omega) (by omega),w64_in (n:=86400 * c.d+3600 * c.h+60 * c.m+c.s - c.off) (by omega) (by omega),w64_in (n:=86400 * c.d+3600 * c.h+60 * c.m+c.s - c.off - 63072000) (by omega) (by omega),w64_in (by omega) (by omega)]
  omega
 have hsb:-63072000000≤secC c∧secC c≤253500000000:=by unfold secC; omega
 rw [w]
 refine lp_ind (fun x=>600 - x.1.2.2.2.2.2.1.toNat) (fun x=>∃ j:Nat,j≤600∧(∀ i,i < j→showR z (secC c - 63072000 - 300+(i:Int))≠(s,0))∧x=((S s,(),0,0,secC c - 63072000 - 300,(j:Int),()),tupZ z,())) ?_ ⟨0,by omega,fun i q=>absurd q (Nat.not_lt_zero i),rfl⟩
 rintro x ⟨j,hj,hno,rfl⟩ k hk'
 unfold Lq1q_0
 dsimp only
 by_cases e:j < 600
 ·have w1:w64 (secC c - 63072000 - 300+(j:Int))=secC c - 63072000 - 300+(j:Int):=w64_in (by omega) (by omega)
  have w2:w64 ((j:Int)+1)=((j+1:Nat):Int):=by rw [w64_in (by omega) (by omega)]; omega
  rw [if_pos (decide_eq_true (by omega)),w1,w2]
  refine rShow z hz _ (by unfold i64r; omega) ?_
  have next:showR z (secC c - 63072000 - 300+(j:Int))≠(s,0)→k ((S s,(),0,0,secC c - 63072000 - 300,((j+1:Nat):Int),()),tupZ z,()):=fun q=>by
   refine hk' _ ⟨j+1,e,fun i hi=>?_,rfl⟩ (by show 600 - ((j+1:Nat):Int).toNat < 600 - ((j:Nat):Int).toNat; omega)
   rcases Nat.lt_or_ge i j with r | r
   ·exact hno i r
   ·have:i=j:=by omega
    subst this; exact q
  by_cases e1:(showR z (secC c - 63072000 - 300+(j:Int))).2=0
  ·rw [if_pos (by simpa using e1),S_toList,S_toList]
   by_cases e2:(showR z (secC c - 63072000 - 300+(j:Int))).1=s
   ·rw [if_pos (by simpa using e2)]
    have hs:showR z (secC c - 63072000 - 300+(j:Int))=(s,0):=Prod.ext e2 e1
    obtain ⟨u,r1,r2,_,r4,_⟩:=read_show hz hs
    have hw:=hwin r4
    have:u=secC c - 63072000 - 300+(j:Int):=by
     rcases Int.lt_or_le u (secC c - 63072000 - 300+(j:Int)) with q | q
     ·exfalso
      refine hno (u - (secC c - 63072000 - 300)).toNat (by omega) ?_
      rw [show secC c - 63072000 - 300+(((u - (secC c - 63072000 - 300)).toNat:Nat):Int)=u by omega]
      exact r4
     ·omega
    rw [r1,this] at h
    exact h
   ·rw [if_neg (by simpa using e2)]
    exact next fun q=>e2 (by rw [q])
  ·rw [if_neg (by simpa using e1)]
   exact next fun q=>e1 (by rw [q])
 ·have:j=600:=by omega
  subst this
  rw [if_neg (dneg (by omega))]
  rcases hrd with ⟨u,r1,r2⟩ | r
  ·exfalso
   have hw:=hwin r2
   refine hno (u - (secC c - 63072000 - 300)).toNat (by omega) ?_
   rw [show secC c - 63072000 - 300+(((u - (secC c - 63072000 - 300)).toNat:Nat):Int)=u by omega]
   exact r2
  ·rw [r] at h; exact h
theorem lLocalTells (z:Zn) (hg:ZG z) (t:Int) (ht:i64r t) (c:Cv) (s:List UInt8) {K:Bool→Prop} (h:K true):Xq06 (tupZ z) t (tupC c) (S s) K:=by
 unfold Xq06 Yq06
 refine lsmall (sFew z hg.tl (fun hf=>?_) ?_)
 rotate_left
 ·rw [if_pos (show (!false)=true from rfl)]; exact h
 have hz:=hg.zi hf
 rw [if_neg (by simp),S_sizeI]
 by_cases l1:(s.length:Int) > 200
 ·rw [if_pos (decide_eq_true l1)]; exact h
 rw [if_neg (dneg l1)]
 by_cases l2:((ByteArray.size (tupC c).2.2.2.2.2.2.1:Nat):Int) > 100
 ·rw [if_pos (decide_eq_true l2)]; exact h
 rw [if_neg (dneg l2)]
 have l2:c.ab.length≤100:=by
  have:((ByteArray.size (S c.ab):Nat):Int)≤100:=by show ((ByteArray.size (tupC c).2.2.2.2.2.2.1:Nat):Int)≤100; omega
  rw [S_size] at this; omega
 refine sCivil z hz t ht (rCivil z hz t ht ?_)
 refine sLText c (by omega) (rText24 c (by omega) ?_)
 refine sLParse s (by omega) (rParse24 s ?_)
 refine sShow z hz t ht (rShow z hz t ht ?_)
 refine sLRd z hz s (by omega) (rRead24 z hz s ?_)
 simp only [lt]
 rw [if_pos trivial,if_pos (by simp),if_pos (by simp),if_pos (by simp),if_pos (by simp),if_pos (by simp),if_pos (by simp),if_pos (by simp),if_pos (by simp),if_pos (by simp),if_pos (by simp)]
 refine sLKnown z hz (rKnown24 z hz ?_)
 rw [beq_self_eq_true]
 exact h
end Go.Proofs.YtbnpclndiichcaaGreatDoor
end
section
set_option linter.unusedVariables false
set_option linter.unusedSimpArgs false
namespace Go.Proofs.YtbnpclndiichcaaGreatDoor
open Go Go.Proofs.YtbnpclndiichcaaGreatDoor.Eng Go.Proofs.YtbnpclndiichcaaGreatDoor.Pl
theorem wfI {n:Int} (h:(Lit.int .i64 n).wf=true):i64r n:=by
 simp [Lit.wf,IntKind.min,IntKind.max,IntKind.bits,IntKind.signed] at h
 unfold i64r; omega
theorem zone_of (tys:List (Int×Bool×ByteArray×Unit)) (trs lps:List (Int×Int×Unit)) (ft:ByteArray) (v:Int) (h1:tys.length≤9223372036854775807)
  (h2:∀ c∈trs,(Lit.int .i64 c.1).wf=true∧(Lit.int .i64 c.2.1).wf=true∧True) (h3:∀ c∈lps,(Lit.int .i64 c.1).wf=true∧(Lit.int .i64 c.2.1).wf=true∧True) (h4:(Lit.int .i64 v).wf=true) :
  ∃ z,ZG z∧((tys.map fun x=>V.agg [.c (.int .i64 x.1),.c (.bool x.2.1),.c (.string x.2.2.1)],trs.map fun x=>V.agg [.c (.int .i64 x.1),.c (.int .i64 x.2.1)],lps.map fun x=>V.agg [.c (.int .i64 x.1),.c (.int .i64 x.2.1)],ft,v,()):List V×List V×List V×ByteArray×Int×Unit)=tupZ z:=by
 have rcI:∀ l:List (Int×Int×Unit),(∀ c∈l,(Lit.int .i64 c.1).wf=true∧(Lit.int .i64 c.2.1).wf=true∧True)→recI (l.map fun c=>(c.1,c.2.1)):=fun l hl c hc=>by
  obtain ⟨d,hd,rfl⟩:=List.mem_map.1 hc
  exact ⟨wfI (hl d hd).1,wfI (hl d hd).2.1⟩
 refine ⟨⟨tys.map fun t=>(t.1,t.2.1,t.2.2.1.data.toList),trs.map fun c=>(c.1,c.2.1),lps.map fun c=>(c.1,c.2.1),ft.data.toList,v⟩,⟨rcI lps h3,rcI trs h2,wfI h4,by simpa using h1⟩,?_⟩
 unfold tupZ
 simp only [List.map_map]
 rfl
abbrev akZ:AK:=(.st (.cons (.sl (.st (.cons (.int .i64) (.cons .bool (.cons .str .nil))))) (.cons (.sl (.st (.cons (.int .i64) (.cons (.int .i64) .nil)))) (.cons (.sl (.st (.cons (.int .i64) (.cons (.int .i64) .nil)))) (.cons .str (.cons (.int .i64) .nil))))))
theorem zone_in (a:akZ.T) (h:akZ.good a):∃ z,ZG z∧(akZ.DV a:List V×List V×List V×ByteArray×Int×Unit)=tupZ z:=by
 obtain ⟨tys,trs,lps,ft,v,u⟩:=a
 obtain ⟨h1,h2,h3,h4,h5,h6⟩:=h
 exact zone_of tys trs lps ft v h1.1 h2.2 h3.2 h5
end Go.Proofs.YtbnpclndiichcaaGreatDoor
end
section
set_option linter.unusedVariables false
set_option linter.unusedSimpArgs false
namespace Go.Proofs.YtbnpclndiichcaaGreatDoor
open Go Go.Proofs.YtbnpclndiichcaaGreatDoor.Eng Go.Proofs.YtbnpclndiichcaaGreatDoor.Pl
theorem pureLocalTells:PureLocalTells:=by
 intro a0 h0 a1 h1 a2 h2 a3 h3
 obtain ⟨z,hz,e⟩:=zone_in a0 h0
 obtain ⟨d,h,m,s,off,dst,ab,u⟩:=a2
 rw [show (akLocalTells0.DV a0:List V×List V×List V×ByteArray×Int×Unit)=tupZ z from e]
 exact lLocalTells z hz _ (wfI h1) ⟨d,h,m,s,off,dst,ab.data.toList⟩ (ByteArray.data a3).toList rfl
end Go.Proofs.YtbnpclndiichcaaGreatDoor
end
