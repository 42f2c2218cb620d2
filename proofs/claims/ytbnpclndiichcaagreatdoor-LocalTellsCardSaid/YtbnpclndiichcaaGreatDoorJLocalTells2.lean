/- What the functions come to in plain data, with proofs, and what that answers. -/
import Derived.Test.YtbnpclndiichcaaGreatDoorJLocalTells1
section
set_option linter.unusedVariables false
set_option linter.unusedSimpArgs false
namespace Go.Proofs.YtbnpclndiichcaaGreatDoor.Pl
open Go Go.Proofs.YtbnpclndiichcaaGreatDoor.Eng
theorem w64_over {n:Int} (h0:9223372036854775807 < n) (h1:n≤18446744073709551615):w64 n=n - 18446744073709551616:=by
 simp only [w64,IntKind.wrap,IntKind.bits,IntKind.signed]
 simp
 split <;> omega
theorem w64_bd (n:Int):-9223372036854775808≤w64 n∧w64 n≤9223372036854775807:=by
 simp only [w64,IntKind.wrap,IntKind.bits,IntKind.signed]
 simp
 split <;> omega
def tabX (s:Int) (c:Rec):Int:=w64 (w64 (c.1 - s) - min (c.2 - s) 0)
def tabG:Int→List Rec→Option (List LR)
 | _,[]=>some []
 | s,c :: r=>if tabX s c % 86400=0 then (tabG c.2 r).map (((tabX s c / 86400 - 1,c.2 - s,false):LR) :: ·) else none
def tabE (l:List Rec) (ls:List LR):Tb:=⟨ls,lastExp l,if lastExp l=true then w64 ((l.getD (l.length - 1) (0,0)).1 - stepsL ls) else 0⟩
def tabT (l:List Rec):Tb×Bool:=match tabG 0 (leapsR l) with
 | none=>(tb0,false)
 | some ls=>if rightT (tabE l ls)=true then (tabE l ls,true) else (tb0,false)
def knownR (l:List Rec):Bool:=recRight l && (tabT l).2
structure TU (t:Tb):Prop where
 r:rightT t=true
 u:∀ l∈t.ls,l.2.2=false
theorem recOk_bd:∀ (l:List Rec) (k:Nat) (b:Rec),recOk k b l=true→∀ (i:Nat) (h:i < l.length),0≤(l[i]).1∧b.2 - (i+1)≤(l[i]).2∧(l[i]).2≤b.2+(i+1)
 | [],k,b,h,i,hi=>by simp at hi
 | c :: r,k,b,h,i,hi=>by
  rw [recOk] at h
  simp only [Bool.and_eq_true,Bool.or_eq_true,decide_eq_true_eq] at h
  cases i with
  | zero =>
   simp only [List.getElem_cons_zero]
   omega
  | succ i =>
   have ih:=recOk_bd r (k+1) c h.2 i (by simpa using hi)
   simp only [List.getElem_cons_succ]
   omega
def recB (l:List Rec):Prop:=∀ c∈l,0≤c.1∧c.1≤9223372036854775807∧-300≤c.2∧c.2≤300
theorem recB_of {l:List Rec} (h:recRight l=true) (hi:∀ c∈l,c.1≤9223372036854775807):recB l:=fun c hc=>by
 have hl:=recOk_len l h
 obtain ⟨i,hi',rfl⟩:=List.getElem_of_mem hc
 have:=recOk_bd l 0 _ h i hi'
 have:=hi _ (List.getElem_mem hi')
 simp only at *
 omega
theorem tabX_val {s:Int} {c:Rec} (hs:-300≤s∧s≤300) (hc:0≤c.1∧c.1≤9223372036854775807∧-300≤c.2∧c.2≤300) (h:0≤tabX s c):tabX s c=c.1 - s - min (c.2 - s) 0:=by
 unfold tabX at h ⊢
 by_cases h1:c.1 - s≤9223372036854775807
 ·rw [w64_in (n:=c.1 - s) (by omega) h1] at h ⊢
  by_cases h2:c.1 - s - min (c.2 - s) 0≤9223372036854775807
  ·exact w64_in (by omega) h2
  ·rw [w64_over (by omega) (by omega)] at h; omega
 ·rw [w64_over (n:=c.1 - s) (by omega) (by omega)] at h ⊢
  rw [w64_in (by omega) (by omega)] at h
  omega
theorem tabG_rec:∀ (l:List Rec) (s:Int) (ls:List LR),(-300≤s∧s≤300)→recB l→tabG s l=some ls→(∀ x∈ls,0≤x.1)→l=recG zn0 s ls∧(∀ x∈ls,x.2.2=false)∧s+stepsL ls=(l.getLast?.map (·.2)).getD s
 | [],s,ls,hs,hl,h,hd=>by cases h; exact ⟨rfl,by simp,by simp [stepsL]⟩
 | c :: r,s,ls,hs,hl,h,hd=>by
  rw [tabG] at h
  split at h
  case isFalse=>cases h
  rename_i hm
  cases hr:tabG c.2 r with
  | none=>rw [hr] at h; cases h
  | some ls' =>
   rw [hr] at h; cases h
   have hc:=hl c (.head _)
   obtain ⟨h1,h2,h3⟩:=tabG_rec r c.2 ls' ⟨hc.2.2.1,hc.2.2.2⟩ (fun x hx=>hl x (.tail _ hx)) hr (fun x hx=>hd x (.tail _ hx))
   have hd0:=hd _ (.head _)
   simp only at hd0
   have hv:=tabX_val hs hc (by omega)
   refine ⟨?_,fun x hx=>?_,?_⟩
   ·rw [recG,inst_utc rfl,show s+(c.2 - s)=c.2 by omega,← h1]
    congr 1
    unfold midL
    ext
    ·show c.1=_
     simp only
     omega
    ·rfl
   ·rcases List.mem_cons.1 hx with rfl | hx
    ·rfl
    ·exact h2 x hx
   ·rw [stepsL_cons,show s+(c.2 - s+stepsL ls')=c.2+stepsL ls' by omega,h3]
    cases r with
    | nil=>rfl
    | cons d r =>
     cases hy:(d :: r).getLast? with
     | none=>simp at hy
     | some y=>rw [List.getLast?_cons_cons,hy]; rfl
theorem leapsR_sub {l:List Rec} {c:Rec} (h:c∈leapsR l):c∈l:=by
 unfold leapsR at h
 split at h
 ·exact List.mem_of_mem_take h
 ·exact h
theorem tab_rec {l:List Rec} (hb:recB l) (h:(tabT l).2=true):TU (tabT l).1∧l=recAll zn0 (tabT l).1:=by
 unfold tabT at h ⊢
 cases hg:tabG 0 (leapsR l) with
 | none=>rw [hg] at h; cases h
 | some ls =>
  rw [hg] at h
  simp only at h ⊢
  split at h
  case isFalse=>cases h
  rename_i hr
  rw [if_pos hr]
  obtain ⟨h1,h2,h3⟩:=tabG_rec _ _ _ (by omega) (fun c hc=>hb c (leapsR_sub hc)) hg (fun x hx=>by have:=(right_rng hr x hx).1; omega)
  refine ⟨⟨hr,h2⟩,?_⟩
  have hex:=(right_ex hr).2
  unfold recAll
  show l=recG zn0 0 ls++if lastExp l=true then [((if lastExp l=true then w64 ((l.getD (l.length - 1) (0,0)).1 - stepsL ls) else 0)+stepsL ls,stepsL ls)] else []
  have hex':lastExp l=true→63072000≤(if lastExp l=true then w64 ((l.getD (l.length - 1) (0,0)).1 - stepsL ls) else 0):=fun e=>(hex e).1
  rw [← h1]
  unfold leapsR at h3 ⊢
  by_cases e:lastExp l=true
  ·have hex':=hex' e
   rw [if_pos e] at h3 hex' ⊢
   rw [if_pos e,if_pos e]
   have hp:1≤l.length:=by
    unfold lastExp at e
    simp only [Bool.or_eq_true,Bool.and_eq_true,decide_eq_true_eq] at e
    omega
   have hl:l=l.take (l.length - 1)++[l.getD (l.length - 1) (0,0)]:=by
    rw [List.getD,List.getElem?_eq_getElem (by omega),Option.getD_some]
    have:=List.take_succ_eq_append_getElem (show l.length - 1 < l.length by omega)
    rw [← this,show l.length - 1+1=l.length by omega,List.take_length]
   have hs:stepsL ls=(l.getD (l.length - 1) (0,0)).2:=by
    rw [Int.zero_add] at h3
    rw [h3]
    unfold lastExp at e
    simp only [Bool.or_eq_true,Bool.and_eq_true,decide_eq_true_eq,beq_iff_eq] at e
    rw [getLast_take _ _ (by omega)]
    rcases e with ⟨e1,e2⟩ | ⟨e1,e2⟩
    ·rw [if_pos (by omega),e1]
     exact e2.symm
    ·rw [if_neg (by omega),List.getElem?_eq_getElem (by omega),e2]
     simp only [Option.map_some,Option.getD_some]
     rw [List.getD,List.getElem?_eq_getElem (by omega),Option.getD_some]
     simp only [show l.length - 1 - 1=l.length - 2 by omega]
   have hc:=hb (l.getD (l.length - 1) (0,0)) (by rw [List.getD,List.getElem?_eq_getElem (by omega),Option.getD_some]; exact List.getElem_mem _)
   have hw:w64 ((l.getD (l.length - 1) (0,0)).1 - stepsL ls)=(l.getD (l.length - 1) (0,0)).1 - stepsL ls:=by
    rw [hs] at hex' ⊢
    by_cases q:(l.getD (l.length - 1) (0,0)).1 - (l.getD (l.length - 1) (0,0)).2≤9223372036854775807
    ·exact w64_in (by omega) q
    ·rw [w64_over (by omega) (by omega)] at hex'; omega
   rw [hw,show (l.getD (l.length - 1) (0,0)).1 - stepsL ls+stepsL ls=(l.getD (l.length - 1) (0,0)).1 by omega,hs]
   exact hl
  ·rw [if_neg e,if_neg e,List.append_nil]
def cntD (ls:List LR) (d:Int):Nat:=fl (fun l:LR=>decide (l.1≥d)) ls
def stepD (ls:List LR) (d:Int):Int:=if (ls.getD (cntD ls d) (-1,0,false)).1=d then (ls.getD (cntD ls d) (-1,0,false)).2.1 else 0
def strt (ls:List LR) (d:Int):Int:=d * 86400+sumT ls (cntD ls d)
variable {t:Tb}
theorem TU.len (h:TU t):t.ls.length≤200:=right_len h.r
theorem TU.sum (h:TU t) (i:Nat):-200≤sumT t.ls i∧sumT t.ls i≤200:=by
 have:=sumT_bd (right_steps h.r) i
 have:=h.len
 omega
theorem TU.stp (h:TU t) {i:Nat} (hi:i < t.ls.length):stepT t.ls i=1∨stepT t.ls i=-1:=stepT_of (right_steps h.r) i hi
theorem TU.day (h:TU t) {i:Nat} (hi:i < t.ls.length):730≤(t.ls[i]).1∧(t.ls[i]).1 < 2932896:=right_rng h.r _ (List.getElem_mem hi)
theorem cnt_spec (h:TU t) (d:Int):cntD t.ls d≤t.ls.length∧(∀ i (hi:i < t.ls.length),i < cntD t.ls d↔(t.ls[i]).1 < d):=by
 refine ⟨fl_le _ _,fun i hi=>?_⟩
 have sp:=fl_spec (fun l:LR=>decide (l.1≥d)) t.ls
 constructor
 ·intro hc
  have:=(sp i hi).1 hc
  simpa using this
 ·intro hd
  rcases Nat.lt_or_ge i (cntD t.ls d) with q | q
  ·exact q
  ·exfalso
   have hl:cntD t.ls d < t.ls.length:=by omega
   have h0:=(sp _ hl).2 rfl
   simp only [decide_eq_true_eq] at h0
   have h0':(t.ls[cntD t.ls d]).1≥d:=h0
   rcases Nat.eq_or_lt_of_le q with e | e
   ·simp only [e] at h0'; omega
   ·have:=right_days h.r _ _ hl hi e
    omega
theorem cnt_of (h:TU t) {d:Int} {n:Nat} (hn:n≤t.ls.length) (h1:∀ i (hi:i < t.ls.length),i < n↔(t.ls[i]).1 < d):cntD t.ls d=n:=by
 obtain ⟨c1,c2⟩:=cnt_spec h d
 rcases Nat.lt_trichotomy (cntD t.ls d) n with q | q | q
 ·have hi:cntD t.ls d < t.ls.length:=by omega
  have:=(c2 _ hi).2 ((h1 _ hi).1 q)
  omega
 ·exact q
 ·have hi:n < t.ls.length:=by omega
  have:=(h1 _ hi).2 ((c2 _ hi).1 q)
  omega
theorem stepD_val (h:TU t) (d:Int):(∃ i,∃ hi:i < t.ls.length,cntD t.ls d=i∧(t.ls[i]).1=d∧stepD t.ls d=stepT t.ls i) ∨
  ((∀ i (hi:i < t.ls.length),(t.ls[i]).1≠d)∧stepD t.ls d=0):=by
 obtain ⟨c1,c2⟩:=cnt_spec h d
 unfold stepD
 by_cases hl:cntD t.ls d < t.ls.length
 ·rw [List.getD,List.getElem?_eq_getElem hl,Option.getD_some]
  by_cases e:(t.ls[cntD t.ls d]).1=d
  ·rw [if_pos e]
   refine .inl ⟨_,hl,rfl,e,?_⟩
   unfold stepT
   rw [List.getD,List.getElem?_eq_getElem hl,Option.getD_some]
  ·rw [if_neg e]
   refine .inr ⟨fun i hi e'=>?_,rfl⟩
   have:=c2 i hi
   rcases Nat.lt_trichotomy i (cntD t.ls d) with q | q | q
   ·omega
   ·subst q; exact e e'
   ·have:=right_days h.r _ _ hl hi q
    have:=c2 _ hl
    omega
 ·rw [List.getD,List.getElem?_eq_none (by omega),Option.getD_none]
  have hno:∀ i (hi:i < t.ls.length),(t.ls[i]).1≠d:=fun i hi=>by have:=c2 i hi; omega
  split
  ·exact .inr ⟨hno,rfl⟩
  ·exact .inr ⟨hno,rfl⟩
theorem stepD_bd (h:TU t) (d:Int):-1≤stepD t.ls d∧stepD t.ls d≤1:=by
 rcases stepD_val h d with ⟨i,hi,_,_,e⟩ | ⟨_,e⟩
 ·have:=h.stp hi; omega
 ·omega
theorem strt_succ (h:TU t) (d:Int):strt t.ls (d+1)=strt t.ls d+86400+stepD t.ls d:=by
 obtain ⟨c1,c2⟩:=cnt_spec h d
 unfold strt
 rcases stepD_val h d with ⟨i,hi,e1,e2,e3⟩ | ⟨e1,e2⟩
 ·have:cntD t.ls (d+1)=i+1:=cnt_of h (by omega) fun j hj=>by
   have:=c2 j hj
   rcases Nat.lt_trichotomy j i with q | q | q
   ·omega
   ·subst q; omega
   ·have:=right_days h.r _ _ hi hj q
    omega
  rw [this,sumT_succ hi,e1,e3]; omega
 ·have:cntD t.ls (d+1)=cntD t.ls d:=cnt_of h c1 fun j hj=>by
   have:=c2 j hj
   have:=e1 j hj
   omega
  rw [this,e2]; omega
theorem strt_mono (h:TU t) (d:Int):∀ (n:Nat),strt t.ls d+86399 * (n:Int)≤strt t.ls (d+n)
 | 0=>by simp
 | n+1=>by
  have:=strt_mono h d n
  have e:=strt_succ h (d+n)
  have:=stepD_bd h (d+n)
  rw [show d+((n+1:Nat):Int)=d+n+1 by omega,e]
  omega
theorem strt_lt (h:TU t) {d e:Int} (hd:d≤e):strt t.ls d+86399 * (e - d)≤strt t.ls e:=by
 have:=strt_mono h d (e - d).toNat
 rw [show (((e - d).toNat:Nat):Int)=e - d by omega,show d+(e - d)=e by omega] at this
 exact this
theorem strt_uniq (h:TU t) {d e s r:Int} (he:strt t.ls d+s=strt t.ls e+r) (hs:0≤s∧s < 86400+stepD t.ls d) (hr:0≤r∧r < 86400+stepD t.ls e):d=e∧s=r:=by
 rcases Int.lt_trichotomy d e with q | q | q
 ·have h1:=strt_succ h d
  have h2:=strt_lt h (show d+1≤e by omega)
  omega
 ·subst q; omega
 ·have h1:=strt_succ h e
  have h2:=strt_lt h (show e+1≤d by omega)
  omega
theorem strt_730 (h:TU t) {d:Int} (hd:d≤730):strt t.ls d=d * 86400:=by
 unfold strt
 have:cntD t.ls d=0:=cnt_of h (by omega) fun i hi=>by have:=h.day hi; omega
 rw [this]; simp [sumT,stepsL]
def ri (ls:List LR) (i:Nat):Int:=midL (ls.getD i (0,0,false))+sumT ls i+min (stepT ls i) 0
theorem ri_get (h:TU t) {i:Nat} (hi:i < t.ls.length):∃ h',(recG zn0 0 t.ls)[i]'h'=(ri t.ls i,sumT t.ls (i+1)):=by
 have hl:i < (recG zn0 0 t.ls).length:=by rw [recG_len]; exact hi
 refine ⟨hl,?_⟩
 rw [recG_get zn0 t.ls 0 i hi hl,inst_utc (h.u _ (List.getElem_mem hi))]
 unfold ri
 rw [List.getD,List.getElem?_eq_getElem hi,Option.getD_some]
 simp
theorem ri_val {i:Nat} (hi:i < t.ls.length):ri t.ls i=((t.ls[i]).1+1) * 86400+sumT t.ls i+min (stepT t.ls i) 0:=by
 unfold ri midL
 rw [List.getD,List.getElem?_eq_getElem hi,Option.getD_some]
theorem ri_lt (h:TU t) {i j:Nat} (hi:i < t.ls.length) (hj:j < t.ls.length) (hij:i < j):ri t.ls i+86400 < ri t.ls j:=by
 rw [ri_val hi,ri_val hj]
 have:=right_days h.r _ _ hi hj hij
 have:=h.sum i
 have:=h.sum j
 have:=h.stp hi
 have:=h.stp hj
 omega
def cntR (ls:List LR) (a:Int):Nat:=fl (fun c:Rec=>decide (c.1 > a)) (recG zn0 0 ls)
theorem cntR_spec (h:TU t) (a:Int):cntR t.ls a≤t.ls.length∧∀ i (hi:i < t.ls.length),i < cntR t.ls a↔ri t.ls i≤a:=by
 have hle:=fl_le (fun c:Rec=>decide (c.1 > a)) (recG zn0 0 t.ls)
 rw [recG_len] at hle
 refine ⟨hle,fun i hi=>?_⟩
 have sp:=fl_spec (fun c:Rec=>decide (c.1 > a)) (recG zn0 0 t.ls)
 have get:∀ j (hj:j < t.ls.length),(j < cntR t.ls a→¬ ri t.ls j > a)∧(j=cntR t.ls a→ri t.ls j > a):=fun j hj=>by
  obtain ⟨h',e⟩:=ri_get h hj
  have:=sp j h'
  rw [e] at this
  simp only [decide_eq_false_iff_not,decide_eq_true_eq] at this
  exact this
 constructor
 ·intro hc
  have:=(get i hi).1 hc
  omega
 ·intro hc
  rcases Nat.lt_or_ge i (cntR t.ls a) with q | q
  ·exact q
  ·exfalso
   have hl:cntR t.ls a < t.ls.length:=by omega
   have:=(get _ hl).2 rfl
   rcases Nat.eq_or_lt_of_le q with e | e
   ·simp only [e] at this; omega
   ·have:=ri_lt h hl hi e
    omega
theorem sum_cnt (h:TU t) (a:Int):sumR (recAll zn0 t) a=sumT t.ls (cntR t.ls a):=sumR_all zn0 t (right_steps h.r) a
theorem step_cnt (h:TU t) (a:Int):(∃ i,∃ hi:i < t.ls.length,ri t.ls i=a∧cntR t.ls a=i+1∧stepR (recAll zn0 t) a=stepT t.ls i)∨((∀ i (hi:i < t.ls.length),ri t.ls i≠a)∧stepR (recAll zn0 t) a=0):=by
 obtain ⟨c1,c2⟩:=cntR_spec h a
 obtain ⟨b1,b2⟩:=cntR_spec h (a - 1)
 unfold stepR
 rw [sum_cnt h,sum_cnt h]
 have hle:cntR t.ls (a - 1)≤cntR t.ls a:=by
  rcases Nat.lt_or_ge (cntR t.ls a) (cntR t.ls (a - 1)) with q | q
  ·have hi:cntR t.ls a < t.ls.length:=by omega
   have:=(b2 _ hi).1 q
   have:=c2 _ hi
   omega
  ·exact q
 by_cases e:cntR t.ls (a - 1)=cntR t.ls a
 ·refine .inr ⟨fun i hi e'=>?_,by rw [e]; omega⟩
  have:=b2 i hi
  have:=c2 i hi
  omega
 ·have hi:cntR t.ls (a - 1) < t.ls.length:=by omega
  have k1:=b2 _ hi
  have k2:=c2 _ hi
  refine .inl ⟨_,hi,by omega,?_,?_⟩
  ·rcases Nat.lt_or_ge (cntR t.ls (a - 1)+1) (cntR t.ls a) with q | q
   ·have hj:cntR t.ls (a - 1)+1 < t.ls.length:=by omega
    have:=(c2 _ hj).1 q
    have:=ri_lt h hi hj (by omega)
    omega
   ·omega
  ·have:cntR t.ls a=cntR t.ls (a - 1)+1:=by
    rcases Nat.lt_or_ge (cntR t.ls (a - 1)+1) (cntR t.ls a) with q | q
    ·have hj:cntR t.ls (a - 1)+1 < t.ls.length:=by omega
     have:=(c2 _ hj).1 q
     have:=ri_lt h hi hj (by omega)
     omega
    ·omega
   rw [this,sumT_succ hi]; omega
def utcD (l:List Rec) (a:Int):Int:=(a - sumR l a) / 86400
def utcS (l:List Rec) (a:Int):Int:=(a - sumR l a) % 86400+if stepR l a > 0 then 1 else 0
theorem utc_strt (h:TU t) (a:Int):strt t.ls (utcD (recAll zn0 t) a)+utcS (recAll zn0 t) a=a∧0≤utcS (recAll zn0 t) a∧utcS (recAll zn0 t) a < 86400+stepD t.ls (utcD (recAll zn0 t) a) ∧
  (utcS (recAll zn0 t) a=86400→stepR (recAll zn0 t) a=1):=by
 obtain ⟨c1,c2⟩:=cntR_spec h a
 have hsum:=sum_cnt h a
 have hbd:=h.sum (cntR t.ls a)
 unfold utcD utcS
 rw [hsum]
 generalize hn:cntR t.ls a=n at *
 generalize hp:a - sumT t.ls n=p at *
 have hpd:p=86400 * (p / 86400)+p % 86400:=by omega
 -- the inserted second
 by_cases hins:∃ i,∃ hi:i < t.ls.length,ri t.ls i=a∧stepT t.ls i=1
 ·obtain ⟨i,hi,e1,e2⟩:=hins
  have hin:n=i+1:=by
   rcases step_cnt h a with ⟨j,hj,f1,f2,f3⟩ | ⟨f1,_⟩
   ·have:j=i:=by
     rcases Nat.lt_trichotomy i j with q | q | q
     ·have:=ri_lt h hi hj q; omega
     ·exact q.symm
     ·have:=ri_lt h hj hi q; omega
    omega
   ·exact absurd e1 (f1 i hi)
  have hst:stepR (recAll zn0 t) a=1:=by
   rcases step_cnt h a with ⟨j,hj,f1,f2,f3⟩ | ⟨f1,_⟩
   ·rw [hn] at f2
    have:j=i:=by omega
    subst this; rw [f3,e2]
   ·exact absurd e1 (f1 i hi)
  have hs:=sumT_succ hi
  have hv:=ri_val hi
  have hq:p=(t.ls[i]).1 * 86400+86399:=by
   rw [hin,hs] at hp; omega
  have hd:p / 86400=(t.ls[i]).1:=by omega
  have hc:cntD t.ls (t.ls[i]).1=i:=cnt_of h (by omega) fun j hj=>by
   rcases Nat.lt_trichotomy j i with q | q | q
   ·have:=right_days h.r _ _ hj hi q; omega
   ·subst q; omega
   ·have:=right_days h.r _ _ hi hj q; omega
  have hsd:stepD t.ls (t.ls[i]).1=1:=by
   rcases stepD_val h (t.ls[i]).1 with ⟨j,hj,f1,f2,f3⟩ | ⟨f1,_⟩
   ·have:j=i:=by omega
    subst this; omega
   ·exact absurd rfl (f1 i hi)
  rw [hd,hst,hsd,if_pos (by omega)]
  unfold strt
  rw [hc]
  omega
 ·have hst:¬ stepR (recAll zn0 t) a > 0:=by
   rcases step_cnt h a with ⟨j,hj,f1,f2,f3⟩ | ⟨f1,f2⟩
   ·rw [f3]
    intro q
    have:=h.stp hj
    exact hins ⟨j,hj,f1,by omega⟩
   ·omega
  rw [if_neg hst]
  have hc:cntD t.ls (p / 86400)=n:=cnt_of h c1 fun j hj=>by
   have k:=c2 j hj
   have v:=ri_val hj
   have sj:=h.stp hj
   constructor
   ·intro q
    have k:=k.1 q
    rcases Nat.lt_or_ge (j+1) n with q2 | q2
    ·have hj2:n - 1 < t.ls.length:=by omega
     have k2:=(c2 _ hj2).1 (by omega)
     have v2:=ri_val hj2
     have s2:=h.stp hj2
     have ss:=sumT_succ hj2
     rw [show n - 1+1=n by omega] at ss
     have:=right_days h.r _ _ hj hj2 (by omega)
     omega
    ·have e:n=j+1:=by omega
     have ss:=sumT_succ hj
     rw [← e] at ss
     by_cases e1:stepT t.ls j=1
     ·have:ri t.ls j≠a:=fun e2=>hins ⟨j,hj,e2,e1⟩
      omega
     ·omega
   ·intro q
    rcases Nat.lt_or_ge j n with q2 | q2
    ·exact q2
    ·exfalso
     have hn2:n < t.ls.length:=by omega
     have k2:=c2 _ hn2
     have v2:=ri_val hn2
     have s2:=h.stp hn2
     rcases Nat.eq_or_lt_of_le q2 with e | e
     ·subst e; omega
     ·have:=right_days h.r _ _ hn2 hj e
      omega
  unfold strt
  rw [hc]
  refine ⟨by omega,by omega,?_,by omega⟩
  rcases stepD_val h (p / 86400) with ⟨j,hj,f1,f2,f3⟩ | ⟨f1,f2⟩
  ·rw [f3]
   rw [hc] at f1
   subst f1
   have k:=c2 _ hj
   have v:=ri_val hj
   have:=h.stp hj
   omega
  ·omega
end Go.Proofs.YtbnpclndiichcaaGreatDoor.Pl
end
section
set_option linter.unusedVariables false
set_option linter.unusedSimpArgs false
namespace Go.Proofs.YtbnpclndiichcaaGreatDoor.Pl
open Go Go.Proofs.YtbnpclndiichcaaGreatDoor.Eng
structure Cv where
 d:Int
 h:Int
 m:Int
 s:Int
 off:Int
 dst:Bool
 ab:List UInt8
deriving DecidableEq
def cv0:Cv:=⟨0,0,0,0,0,false,[]⟩
def d4 (n:Int):List UInt8:=[UInt8.ofNat (48+(n / 10 / 10 / 10 % 10).toNat),UInt8.ofNat (48+(n / 10 / 10 % 10).toNat),UInt8.ofNat (48+(n / 10 % 10).toNat),UInt8.ofNat (48+(n % 10).toNat)]
def dayL (n:Int):List UInt8:=d4 (yearP n)++45 :: (dd (monP n)++45 :: dd (dayP n))
def pairP (n:Int):List UInt8:=itoaK (n / 10)++itoaK (n % 10)
def distB (off:Int):List UInt8 :=
 (if off < 0 then 45 else 43) :: (pairP ((if off < 0 then -off else off) / 3600)++58 :: (pairP ((if off < 0 then -off else off) / 60 % 60)++(if (if off < 0 then -off else off) % 60≠0 then 58 :: pairP ((if off < 0 then -off else off) % 60) else [])))
def okC (c:Cv):Bool:=decide (-719162≤c.d∧c.d≤2932896) && decide (0≤c.h∧c.h≤23) && decide (0≤c.m∧c.m≤59) && decide (0≤c.s∧c.s≤60) && decide (-89999≤c.off∧c.off≤93599) && abbrL c.ab
def ctextB (c:Cv):List UInt8:=dayL c.d++84 :: (pairP c.h++58 :: (pairP c.m++58 :: (pairP c.s++(distB c.off++32 :: c.ab))))
def ctextL (c:Cv):List UInt8×Bool:=if okC c=true then (ctextB c,true) else ([],false)
def readG:List UInt8→List UInt8→Int→Bool→List Int→Bool×List Int
 | [],sh,n,had,acc=>(had && sh.isEmpty,acc++[n])
 | c :: r,[],n,had,acc=>(false,[])
 | c :: r,q :: sh,n,had,acc =>
  if q≠48 then (if c≠q then (false,[]) else readG r sh 0 false (acc++[n]))
  else if isDig c=true then readG r sh (10 * n+((c.toNat:Int) - 48)) true acc else (false,[])
def zs (k:Nat):List UInt8:=List.replicate k 48
def shC:List UInt8:=[48,48,48,48,45,48,48,45,48,48,84,48,48,58,48,48,58,48,48]
def shD:List UInt8:=[48,48,58,48,48]
def shE:List UInt8:=[48,48,58,48,48,58,48,48]
theorem readG_digs:∀ (ds:List UInt8) (r sh:List UInt8) (n:Int) (had:Bool) (acc:List Int),(∀ c∈ds,isDig c=true)→ds≠[] →
  readG (ds++r) (zs ds.length++sh) n had acc=readG r sh (10 ^ ds.length * n+(valL ds:Int)) true acc
 | [],r,sh,n,had,acc,_,h=>absurd rfl h
 | [c],r,sh,n,had,acc,hd,_=>by
  have hc:=hd c (.head _)
  have:=(isDig_iff c).1 hc
  show readG (c :: r) (48 :: sh) n had acc=_
  rw [readG,if_neg (by simp),if_pos hc]
  congr 1
  simp [valL_one]; omega
 | c :: e :: ds,r,sh,n,had,acc,hd,_=>by
  have hc:=hd c (.head _)
  have hb:=(isDig_iff c).1 hc
  have ih:=readG_digs (e :: ds) r sh (10 * n+((c.toNat:Int) - 48)) true acc (fun x hx=>hd x (.tail _ hx)) (by simp)
  show readG (c :: ((e :: ds)++r)) (48 :: (zs (e :: ds).length++sh)) n had acc=_
  rw [readG,if_neg (by simp),if_pos hc,ih]
  congr 1
  have key:∀ (l:List UInt8) (v:Nat),l.foldl (fun n c=>10 * n+(c.toNat - 48)) v=10 ^ l.length * v+l.foldl (fun n c=>10 * n+(c.toNat - 48)) 0:=by
   intro l
   induction l with
   | nil=>simp
   | cons x l ih =>
    intro v
    simp only [List.foldl_cons,List.length_cons]
    rw [ih,ih (10 * 0+(x.toNat - 48)),Nat.pow_succ]
    simp only [Nat.mul_zero,Nat.zero_add,Nat.mul_add]
    rw [Nat.mul_assoc,Nat.add_assoc]
  have hv:valL (c :: e :: ds)=10 ^ (e :: ds).length * (c.toNat - 48)+valL (e :: ds):=by
   unfold valL
   rw [List.foldl_cons,key (e :: ds)]
   simp
  rw [hv,List.length_cons (a:=c),Int.pow_succ]
  push_cast
  rw [show ((c.toNat - 48:Nat):Int)=(c.toNat:Int) - 48 by omega]
  rw [Int.mul_add,← Int.mul_assoc,Int.mul_comm (10 ^ (e :: ds).length) 10,Int.add_assoc]
theorem readG_sep {q:UInt8} (hq:q≠48) (r sh:List UInt8) (n:Int) (had:Bool) (acc:List Int):readG (q :: r) (q :: sh) n had acc=readG r sh 0 false (acc++[n]):=by
 rw [readG,if_pos hq,if_neg (by simp)]
theorem readG_inv:∀ (k:Nat) (l sh:List UInt8) (n:Int) (had:Bool) (acc:List Int),(readG l (zs k++sh) n had acc).1=true→(sh=[]∨∃ q s,sh=q :: s∧q≠48) →
  ∃ ds r,l=ds++r∧ds.length=k∧(∀ c∈ds,isDig c=true)
 | 0,l,sh,n,had,acc,h,_=>⟨[],l,rfl,rfl,fun c hc=>by cases hc⟩
 | k+1,[],sh,n,had,acc,h,_=>by
  rw [readG] at h
  simp [zs] at h
 | k+1,c :: l,sh,n,had,acc,h,hs=>by
  have h:(readG (c :: l) (48 :: (zs k++sh)) n had acc).1=true:=h
  rw [readG,if_neg (by simp)] at h
  split at h
  case isFalse=>cases h
  rename_i hc
  obtain ⟨ds,r,rfl,h2,h3⟩:=readG_inv k l sh _ _ _ h hs
  exact ⟨c :: ds,r,rfl,by simp [h2],fun x hx=>by rcases List.mem_cons.1 hx with rfl | hx; exact hc; exact h3 x hx⟩
theorem readG_field (k:Nat) (q:UInt8) (hq:q≠48) (l sh:List UInt8) (acc:List Int) (had:Bool) (hk:0 < k) (h:(readG l (zs k++q :: sh) 0 had acc).1=true) :
  ∃ ds r,l=ds++q :: r∧ds.length=k∧(∀ c∈ds,isDig c=true)∧readG l (zs k++q :: sh) 0 had acc=readG r sh 0 false (acc++[(valL ds:Int)]):=by
 obtain ⟨ds,r,rfl,h2,h3⟩:=readG_inv k l (q :: sh) 0 had acc h (.inr ⟨q,sh,rfl,hq⟩)
 have hne:ds≠[]:=by intro e; subst e; simp at h2; omega
 have e1:=readG_digs ds r (q :: sh) 0 had acc h3 hne
 rw [h2] at e1
 rw [e1] at h ⊢
 cases r with
 | nil=>rw [readG] at h; simp at h
 | cons c r =>
  rw [readG,if_pos hq] at h
  split at h
  ·cases h
  ·rename_i hc
   have hc:c=q:=by simpa using hc
   subst hc
   refine ⟨ds,r,rfl,h2,h3,?_⟩
   rw [readG_sep hq]
   simp
theorem readG_last (k:Nat) (l:List UInt8) (acc:List Int) (had:Bool) (hk:0 < k) (h:(readG l (zs k) 0 had acc).1=true) :
  l.length=k∧(∀ c∈l,isDig c=true)∧readG l (zs k) 0 had acc=(true,acc++[(valL l:Int)]):=by
 have h:(readG l (zs k++[]) 0 had acc).1=true:=by rw [List.append_nil]; exact h
 obtain ⟨ds,r,rfl,h2,h3⟩:=readG_inv k l [] 0 had acc h (.inl rfl)
 have hne:ds≠[]:=by intro e; subst e; simp at h2; omega
 have e1:=readG_digs ds r [] 0 had acc h3 hne
 rw [h2] at e1
 rw [e1] at h
 rw [List.append_nil] at e1
 cases r with
 | nil =>
  rw [List.append_nil] at e1 ⊢
  refine ⟨h2,h3,?_⟩
  rw [e1,readG]
  simp
 | cons c r=>rw [readG] at h; simp at h
theorem u8_48 {c:UInt8} {v:Nat} (h:v=c.toNat - 48) (hc:isDig c=true):UInt8.ofNat (48+v)=c:=by
 have:=(isDig_iff c).1 hc
 refine u8_eq ?_
 rw [UInt8.toNat_ofNat']
 omega
theorem dd_val {ds:List UInt8} (hl:ds.length=2) (hd:∀ c∈ds,isDig c=true):dd (valL ds:Int)=ds∧valL ds≤99:=by
 match ds,hl with
 | [a,b],_ =>
  have ha:=hd a (.head _)
  have hb:=hd b (.tail _ (.head _))
  have h1:=(isDig_iff a).1 ha
  have h2:=(isDig_iff b).1 hb
  rw [valL_two]
  refine ⟨?_,by omega⟩
  unfold dd
  rw [u8_48 (c:=a) (by omega) ha,u8_48 (c:=b) (by omega) hb]
theorem d4_val {ds:List UInt8} (hl:ds.length=4) (hd:∀ c∈ds,isDig c=true):d4 (valL ds:Int)=ds∧valL ds≤9999:=by
 match ds,hl with
 | [a,b,c,e],_ =>
  have ha:=hd a (.head _)
  have hb:=hd b (.tail _ (.head _))
  have hc:=hd c (.tail _ (.tail _ (.head _)))
  have he:=hd e (.tail _ (.tail _ (.tail _ (.head _))))
  have h1:=(isDig_iff a).1 ha
  have h2:=(isDig_iff b).1 hb
  have h3:=(isDig_iff c).1 hc
  have h4:=(isDig_iff e).1 he
  have hv:valL [a,b,c,e]=10 * (10 * (10 * (a.toNat - 48)+(b.toNat - 48))+(c.toNat - 48))+(e.toNat - 48):=by simp [valL]
  rw [hv]
  refine ⟨?_,by omega⟩
  unfold d4
  rw [u8_48 (c:=a) (by omega) ha,u8_48 (c:=b) (by omega) hb,u8_48 (c:=c) (by omega) hc,u8_48 (c:=e) (by omega) he]
theorem dd_digs {n:Int} (h0:0≤n) (h1:n≤99):(dd n).length=2∧(∀ c∈dd n,isDig c=true)∧valL (dd n)=n.toNat∧pairP n=dd n:=by
 have key:∀ k:Nat,k < 100→((dd (k:Int)).length=2∧(dd (k:Int)).all isDig=true∧valL (dd (k:Int))=k∧pairP (k:Int)=dd (k:Int)):=by decide +kernel
 have:=key n.toNat (by omega)
 rw [show ((n.toNat:Nat):Int)=n by omega] at this
 exact ⟨this.1,List.all_eq_true.1 this.2.1,this.2.2.1,this.2.2.2⟩
theorem d4_digs {n:Int} (h0:0≤n) (h1:n≤9999):(d4 n).length=4∧(∀ c∈d4 n,isDig c=true)∧valL (d4 n)=n.toNat:=by
 have dig:∀ v:Int,0≤v→isDig (UInt8.ofNat (48+(v % 10).toNat))=true∧(UInt8.ofNat (48+(v % 10).toNat)).toNat=48+(v % 10).toNat:=fun v hv=>by
  have:(UInt8.ofNat (48+(v % 10).toNat)).toNat=48+(v % 10).toNat:=by rw [UInt8.toNat_ofNat']; omega
  exact ⟨(isDig_iff _).2 (by omega),this⟩
 refine ⟨rfl,fun c hc=>?_,?_⟩
 ·unfold d4 at hc
  simp only [List.mem_cons,List.not_mem_nil,or_false] at hc
  rcases hc with rfl | rfl | rfl | rfl
  ·exact (dig _ (by omega)).1
  ·exact (dig _ (by omega)).1
  ·exact (dig _ (by omega)).1
  ·exact (dig _ h0).1
 ·unfold d4
  simp only [valL,List.foldl_cons,List.foldl_nil]
  rw [(dig (n / 10 / 10 / 10) (by omega)).2,(dig (n / 10 / 10) (by omega)).2,(dig (n / 10) (by omega)).2,(dig n h0).2]
  omega
def sumO (neg:Bool):List Int→Int
 | [a,b]=>if neg=true then -(3600 * a+60 * b) else 3600 * a+60 * b
 | [a,b,c]=>if neg=true then -(3600 * a+60 * b+c) else 3600 * a+60 * b+c
 | _=>0
def awayL (l:List UInt8):Int×Bool:=match l with
 | []=>(0,false)
 | g :: r=>if g≠43∧g≠45 then (0,false) else
  if (readG r (if 6 < l.length then shE else shD) 0 false []).1=false then (0,false) else
  (sumO (g == 45) (readG r (if 6 < l.length then shE else shD) 0 false []).2,distB (sumO (g == 45) (readG r (if 6 < l.length then shE else shD) 0 false []).2) == l)
def cparseB (b nm:List UInt8):Cv×Bool :=
 if b.length < 19 then (cv0,false) else
 if (readG (b.take 19) shC 0 false []).1=false∨(awayL (b.drop 19)).2=false then (cv0,false) else
 match (readG (b.take 19) shC 0 false []).2 with
 | [y,m,d,h,mi,s]=>if (1≤y∧y≤9999∧1≤m∧m≤12∧1≤d∧d≤dim y m)∧okC ⟨num y m d,h,mi,s,(awayL (b.drop 19)).1,false,nm⟩=true then (⟨num y m d,h,mi,s,(awayL (b.drop 19)).1,false,nm⟩,true) else (cv0,false)
 | _=>(cv0,false)
def cparseL (s:List UInt8):Cv×Bool:=cparseB (splitL 32 s).1 (splitL 32 s).2.1
theorem read_clock {l:List UInt8} (h:(readG l shC 0 false []).1=true):∃ d1 d2 d3 d4' d5 d6:List UInt8,l=d1++45 :: (d2++45 :: (d3++84 :: (d4'++58 :: (d5++58 :: d6)))) ∧
  (d1.length=4∧∀ c∈d1,isDig c=true)∧(d2.length=2∧∀ c∈d2,isDig c=true)∧(d3.length=2∧∀ c∈d3,isDig c=true)∧(d4'.length=2∧∀ c∈d4',isDig c=true)∧(d5.length=2∧∀ c∈d5,isDig c=true)∧(d6.length=2∧∀ c∈d6,isDig c=true) ∧
  (readG l shC 0 false []).2=[(valL d1:Int),(valL d2:Int),(valL d3:Int),(valL d4':Int),(valL d5:Int),(valL d6:Int)]:=by
 obtain ⟨d1,r1,e1,a1,b1,c1⟩:=readG_field 4 45 (by decide) l (zs 2++45 :: (zs 2++84 :: (zs 2++58 :: (zs 2++58 :: zs 2)))) [] false (by decide) h
 have c1:readG l shC 0 false []=_:=c1
 rw [c1] at h ⊢
 obtain ⟨d2,r2,e2,a2,b2,c2⟩:=readG_field 2 45 (by decide) r1 _ _ _ (by decide) h
 rw [c2] at h ⊢
 obtain ⟨d3,r3,e3,a3,b3,c3⟩:=readG_field 2 84 (by decide) r2 _ _ _ (by decide) h
 rw [c3] at h ⊢
 obtain ⟨d4',r4,e4,a4,b4,c4⟩:=readG_field 2 58 (by decide) r3 _ _ _ (by decide) h
 rw [c4] at h ⊢
 obtain ⟨d5,r5,e5,a5,b5,c5⟩:=readG_field 2 58 (by decide) r4 _ _ _ (by decide) h
 rw [c5] at h ⊢
 obtain ⟨a6,b6,c6⟩:=readG_last 2 r5 _ _ (by decide) h
 rw [c6]
 refine ⟨d1,d2,d3,d4',d5,r5,?_,⟨a1,b1⟩,⟨a2,b2⟩,⟨a3,b3⟩,⟨a4,b4⟩,⟨a5,b5⟩,⟨a6,b6⟩,rfl⟩
 rw [e1,e2,e3,e4,e5]
theorem clock_read (d1 d2 d3 d4' d5 d6:List UInt8) (h1:d1.length=4∧∀ c∈d1,isDig c=true) (h2:d2.length=2∧∀ c∈d2,isDig c=true) (h3:d3.length=2∧∀ c∈d3,isDig c=true) (h4:d4'.length=2∧∀ c∈d4',isDig c=true) (h5:d5.length=2∧∀ c∈d5,isDig c=true) (h6:d6.length=2∧∀ c∈d6,isDig c=true) :
  readG (d1++45 :: (d2++45 :: (d3++84 :: (d4'++58 :: (d5++58 :: d6))))) shC 0 false []=(true,[(valL d1:Int),(valL d2:Int),(valL d3:Int),(valL d4':Int),(valL d5:Int),(valL d6:Int)]):=by
 have ne:∀ {l:List UInt8} {k:Nat},l.length=k→0 < k→l≠[]:=fun hl hk e=>by subst e; simp at hl; omega
 have f1:=readG_digs d1 (45 :: (d2++45 :: (d3++84 :: (d4'++58 :: (d5++58 :: d6))))) (45 :: (zs 2++45 :: (zs 2++84 :: (zs 2++58 :: (zs 2++58 :: zs 2))))) 0 false [] h1.2 (ne h1.1 (by decide))
 rw [h1.1] at f1
 have f1:readG _ shC 0 false []=_:=f1
 rw [f1,readG_sep (by decide)]
 have f2:=readG_digs d2 (45 :: (d3++84 :: (d4'++58 :: (d5++58 :: d6)))) (45 :: (zs 2++84 :: (zs 2++58 :: (zs 2++58 :: zs 2)))) 0 false ([]++[10 ^ 4 * 0+(valL d1:Int)]) h2.2 (ne h2.1 (by decide))
 rw [h2.1] at f2
 rw [f2,readG_sep (by decide)]
 have f3:=readG_digs d3 (84 :: (d4'++58 :: (d5++58 :: d6))) (84 :: (zs 2++58 :: (zs 2++58 :: zs 2))) 0 false ([]++[10 ^ 4 * 0+(valL d1:Int)]++[10 ^ 2 * 0+(valL d2:Int)]) h3.2 (ne h3.1 (by decide))
 rw [h3.1] at f3
 rw [f3,readG_sep (by decide)]
 have f4:=readG_digs d4' (58 :: (d5++58 :: d6)) (58 :: (zs 2++58 :: zs 2)) 0 false ([]++[10 ^ 4 * 0+(valL d1:Int)]++[10 ^ 2 * 0+(valL d2:Int)]++[10 ^ 2 * 0+(valL d3:Int)]) h4.2 (ne h4.1 (by decide))
 rw [h4.1] at f4
 rw [f4,readG_sep (by decide)]
 have f5:=readG_digs d5 (58 :: d6) (58 :: zs 2) 0 false ([]++[10 ^ 4 * 0+(valL d1:Int)]++[10 ^ 2 * 0+(valL d2:Int)]++[10 ^ 2 * 0+(valL d3:Int)]++[10 ^ 2 * 0+(valL d4':Int)]) h5.2 (ne h5.1 (by decide))
 rw [h5.1] at f5
 rw [f5,readG_sep (by decide)]
 have f6:=readG_digs d6 [] [] 0 false ([]++[10 ^ 4 * 0+(valL d1:Int)]++[10 ^ 2 * 0+(valL d2:Int)]++[10 ^ 2 * 0+(valL d3:Int)]++[10 ^ 2 * 0+(valL d4':Int)]++[10 ^ 2 * 0+(valL d5:Int)]) h6.2 (ne h6.1 (by decide))
 rw [h6.1,List.append_nil,List.append_nil] at f6
 rw [f6,readG]
 simp
theorem dist_read {off:Int} (h:-89999≤off∧off≤93599):awayL (distB off)=(off,true):=by
 generalize ha:(if off < 0 then -off else off)=a
 have hab:0≤a∧a≤93599:=by rw [← ha]; split <;> omega
 have hd:distB off=(if off < 0 then 45 else 43) :: (pairP (a / 3600)++58 :: (pairP (a / 60 % 60)++(if a % 60≠0 then 58 :: pairP (a % 60) else []))):=by unfold distB; rw [ha]
 obtain ⟨p1,p2,p3,p4⟩:=dd_digs (n:=a / 3600) (by omega) (by omega)
 obtain ⟨q1,q2,q3,q4⟩:=dd_digs (n:=a / 60 % 60) (by omega) (by omega)
 obtain ⟨r1,r2,r3,r4⟩:=dd_digs (n:=a % 60) (by omega) (by omega)
 have ne:∀ {l:List UInt8},l.length=2→l≠[]:=fun hl e=>by subst e; simp at hl
 rw [p4,q4,r4] at hd
 have hg:∀ g:UInt8,(if off < 0 then (45:UInt8) else 43)=g→¬ (g≠43∧g≠45)∧(g == 45)=decide (off < 0):=fun g hg=>by
  by_cases e:off < 0
  ·rw [if_pos e] at hg; subst hg; rw [decide_eq_true e]; exact ⟨by decide,rfl⟩
  ·rw [if_neg e] at hg; subst hg; rw [decide_eq_false e]; exact ⟨by decide,rfl⟩
 obtain ⟨g1,g2⟩:=hg _ rfl
 have fin:∀ ns:List Int,sumO (decide (off < 0)) ns=off→(sumO (decide (off < 0)) ns,distB (sumO (decide (off < 0)) ns) == distB off)=(off,true):=fun ns e=>by rw [e]; simp
 by_cases hz:a % 60≠0
 ·rw [if_pos hz] at hd
  have hl:(distB off).length=9:=by rw [hd]; simp [p1,q1,r1]
  have hr:readG (dd (a / 3600)++58 :: (dd (a / 60 % 60)++58 :: dd (a % 60))) shE 0 false []=(true,[a / 3600,a / 60 % 60,a % 60]):=by
   have f1:=readG_digs (dd (a / 3600)) (58 :: (dd (a / 60 % 60)++58 :: dd (a % 60))) (58 :: (zs 2++58 :: zs 2)) 0 false [] p2 (ne p1)
   rw [p1] at f1
   have f1:readG _ shE 0 false []=_:=f1
   rw [f1,readG_sep (by decide)]
   have f2:=readG_digs (dd (a / 60 % 60)) (58 :: dd (a % 60)) (58 :: zs 2) 0 false ([]++[10 ^ 2 * 0+(valL (dd (a / 3600)):Int)]) q2 (ne q1)
   rw [q1] at f2
   rw [f2,readG_sep (by decide)]
   have f3:=readG_digs (dd (a % 60)) [] [] 0 false ([]++[10 ^ 2 * 0+(valL (dd (a / 3600)):Int)]++[10 ^ 2 * 0+(valL (dd (a / 60 % 60)):Int)]) r2 (ne r1)
   rw [r1,List.append_nil,List.append_nil] at f3
   rw [f3,readG,p3,q3,r3]
   simp
   omega
  unfold awayL
  rw [hl,hd]
  simp only
  rw [if_neg g1]
  simp only [show (6:Nat) < 9 from by decide,if_true]
  rw [hr,g2]
  simp only [Bool.true_eq_false,if_false]
  rw [← hd]
  refine fin _ ?_
  rw [sumO]
  by_cases e:off < 0
  ·rw [if_pos (by simpa using e)]; rw [if_pos e] at ha; omega
  ·rw [if_neg (by simpa using e)]; rw [if_neg e] at ha; omega
 ·rw [if_neg hz,List.append_nil] at hd
  have hl:(distB off).length=6:=by rw [hd]; simp [p1,q1]
  have hr:readG (dd (a / 3600)++58 :: dd (a / 60 % 60)) shD 0 false []=(true,[a / 3600,a / 60 % 60]):=by
   have f1:=readG_digs (dd (a / 3600)) (58 :: dd (a / 60 % 60)) (58 :: zs 2) 0 false [] p2 (ne p1)
   rw [p1] at f1
   have f1:readG _ shD 0 false []=_:=f1
   rw [f1,readG_sep (by decide)]
   have f2:=readG_digs (dd (a / 60 % 60)) [] [] 0 false ([]++[10 ^ 2 * 0+(valL (dd (a / 3600)):Int)]) q2 (ne q1)
   rw [q1,List.append_nil,List.append_nil] at f2
   rw [f2,readG,p3,q3]
   simp
   omega
  unfold awayL
  rw [hl,hd]
  simp only
  rw [if_neg g1]
  simp only [Nat.lt_irrefl,if_false]
  rw [hr,g2]
  simp only [Bool.true_eq_false,if_false]
  rw [← hd]
  refine fin _ ?_
  rw [sumO]
  by_cases e:off < 0
  ·rw [if_pos (by simpa using e)]; rw [if_pos e] at ha; omega
  ·rw [if_neg (by simpa using e)]; rw [if_neg e] at ha; omega
theorem okC_iff {c:Cv}:okC c=true↔(-719162≤c.d∧c.d≤2932896)∧(0≤c.h∧c.h≤23)∧(0≤c.m∧c.m≤59)∧(0≤c.s∧c.s≤60)∧(-89999≤c.off∧c.off≤93599)∧abbrL c.ab=true:=by
 unfold okC
 simp only [Bool.and_eq_true,decide_eq_true_eq,and_assoc]
theorem no32_digs {l:List UInt8} (h:∀ c∈l,isDig c=true):(32:UInt8)∉l:=fun hc=>by
 have:=h _ hc
 exact absurd this (by decide)
theorem dist_no32 {off:Int} (h:-89999≤off∧off≤93599):(32:UInt8)∉distB off:=by
 unfold distB
 generalize ha:(if off < 0 then -off else off)=a
 have hab:0≤a∧a≤93599:=by rw [← ha]; split <;> omega
 obtain ⟨p1,p2,p3,p4⟩:=dd_digs (n:=a / 3600) (by omega) (by omega)
 obtain ⟨q1,q2,q3,q4⟩:=dd_digs (n:=a / 60 % 60) (by omega) (by omega)
 obtain ⟨r1,r2,r3,r4⟩:=dd_digs (n:=a % 60) (by omega) (by omega)
 rw [p4,q4,r4]
 intro hc
 simp only [List.mem_cons,List.mem_append] at hc
 rcases hc with hc | hc | hc | hc | hc
 ·split at hc <;> exact absurd hc (by decide)
 ·exact no32_digs p2 hc
 ·exact absurd hc (by decide)
 ·exact no32_digs q2 hc
 ·split at hc
  ·rcases List.mem_cons.1 hc with hc | hc
   ·exact absurd hc (by decide)
   ·exact no32_digs r2 hc
  ·cases hc
theorem split_at {a b:List UInt8} {c:UInt8} (h:c∉a):splitL c (a++c :: b)=(a,b,true):=by
 have hn:nl (· == c) (a++c :: b)=a.length:=nl_of _ _ _ (by simp) (fun x hx=>by
  rw [List.take_left] at hx
  simp only [beq_eq_false_iff_ne,ne_eq]
  exact fun e=>h (e ▸ hx)) (fun hlt=>by simp)
 unfold splitL
 rw [hn,if_pos (by simp),List.take_left]
 simp [List.drop_append]
theorem cparse_text {c:Cv} (h:okC c=true):cparseL (ctextB c)=(⟨c.d,c.h,c.m,c.s,c.off,false,c.ab⟩,true):=by
 obtain ⟨h1,h2,h3,h4,h5,h6⟩:=okC_iff.1 h
 obtain ⟨⟨v1,v2,v3,v4,v5,v6⟩,v7⟩:=num_date h1.1 h1.2
 have hdim:=dim_bd (yearP c.d) (monP c.d)
 obtain ⟨y1,y2,y3⟩:=d4_digs (n:=yearP c.d) (by omega) (by omega)
 obtain ⟨m1,m2,m3,_⟩:=dd_digs (n:=monP c.d) (by omega) (by omega)
 obtain ⟨d1,d2,d3,_⟩:=dd_digs (n:=dayP c.d) (by omega) (by omega)
 obtain ⟨p1,p2,p3,p4⟩:=dd_digs (n:=c.h) (by omega) (by omega)
 obtain ⟨q1,q2,q3,q4⟩:=dd_digs (n:=c.m) (by omega) (by omega)
 obtain ⟨r1,r2,r3,r4⟩:=dd_digs (n:=c.s) (by omega) (by omega)
 have ht:ctextB c=(d4 (yearP c.d)++45 :: (dd (monP c.d)++45 :: (dd (dayP c.d)++84 :: (dd c.h++58 :: (dd c.m++58 :: dd c.s))))++distB c.off)++32 :: c.ab:=by
  unfold ctextB dayL
  rw [p4,q4,r4]
  simp
 have hsp:splitL 32 (ctextB c)=(d4 (yearP c.d)++45 :: (dd (monP c.d)++45 :: (dd (dayP c.d)++84 :: (dd c.h++58 :: (dd c.m++58 :: dd c.s))))++distB c.off,c.ab,true):=by
  rw [ht]
  refine split_at fun hc=>?_
  simp only [List.mem_append,List.mem_cons] at hc
  rcases hc with (hc | hc | hc | hc | hc | hc | hc | hc | hc | hc | hc) | hc
  ·exact no32_digs y2 hc
  ·exact absurd hc (by decide)
  ·exact no32_digs m2 hc
  ·exact absurd hc (by decide)
  ·exact no32_digs d2 hc
  ·exact absurd hc (by decide)
  ·exact no32_digs p2 hc
  ·exact absurd hc (by decide)
  ·exact no32_digs q2 hc
  ·exact absurd hc (by decide)
  ·exact no32_digs r2 hc
  ·exact dist_no32 h5 hc
 unfold cparseL
 rw [hsp]
 simp only
 have hlen:(d4 (yearP c.d)++45 :: (dd (monP c.d)++45 :: (dd (dayP c.d)++84 :: (dd c.h++58 :: (dd c.m++58 :: dd c.s))))).length=19:=by simp [y1,m1,d1,p1,q1,r1]
 have hrd:=clock_read (d4 (yearP c.d)) (dd (monP c.d)) (dd (dayP c.d)) (dd c.h) (dd c.m) (dd c.s) ⟨y1,y2⟩ ⟨m1,m2⟩ ⟨d1,d2⟩ ⟨p1,p2⟩ ⟨q1,q2⟩ ⟨r1,r2⟩
 generalize d4 (yearP c.d)++45 :: (dd (monP c.d)++45 :: (dd (dayP c.d)++84 :: (dd c.h++58 :: (dd c.m++58 :: dd c.s))))=X at *
 unfold cparseB
 rw [if_neg (by rw [List.length_append]; omega),List.take_left' hlen,List.drop_left' hlen,hrd,dist_read h5]
 simp only [Bool.true_eq_false,or_self,if_false]
 rw [y3,m3,d3,p3,q3,r3,show ((yearP c.d).toNat:Int)=yearP c.d by omega,show ((monP c.d).toNat:Int)=monP c.d by omega,show ((dayP c.d).toNat:Int)=dayP c.d by omega,
  show (c.h.toNat:Int)=c.h by omega,show (c.m.toNat:Int)=c.m by omega,show (c.s.toNat:Int)=c.s by omega,v7]
 rw [if_pos ⟨⟨v1,v2,v3,v4,v5,v6⟩,okC_iff.2 ⟨h1,h2,h3,h4,h5,h6⟩⟩]
theorem away_dist {l:List UInt8} (h:(awayL l).2=true):distB (awayL l).1=l:=by
 cases l with
 | nil=>cases h
 | cons g r =>
  unfold awayL at h ⊢
  simp only at h ⊢
  generalize readG r (if 6 < (g :: r).length then shE else shD) 0 false []=p at *
  by_cases k1:g≠43∧g≠45
  ·rw [if_pos k1] at h; cases h
  rw [if_neg k1] at h ⊢
  by_cases k2:p.1=false
  ·rw [if_pos k2] at h; cases h
  rw [if_neg k2] at h ⊢
  exact beq_iff_eq.1 h
theorem ctext_parse {s:List UInt8} (h:(cparseL s).2=true):okC (cparseL s).1=true∧ctextB (cparseL s).1=s∧(cparseL s).1.dst=false:=by
 unfold cparseL at h ⊢
 have hsp:(splitL 32 s).2.1≠[]→s=(splitL 32 s).1++32 :: (splitL 32 s).2.1:=fun hne=>by
  unfold splitL at hne ⊢
  by_cases e:nl (· == 32) s < s.length
  ·rw [if_pos e]
   simp only
   have hc:=(nl_spec (· == 32) s _ e).2 rfl
   have:=List.drop_eq_getElem_cons e
   have e2:=List.take_append_drop (nl (· == 32) s) s
   rw [this] at e2
   have hc:s[nl (· == 32) s]=32:=by simpa using hc
   rw [hc] at e2
   exact e2.symm
  ·rw [if_neg e] at hne; exact absurd rfl hne
 generalize (splitL 32 s).1=b at *
 generalize (splitL 32 s).2.1=nm at *
 unfold cparseB at h ⊢
 by_cases h0:b.length < 19
 ·rw [if_pos h0] at h; cases h
 rw [if_neg h0] at h ⊢
 by_cases h1:(readG (b.take 19) shC 0 false []).1=false∨(awayL (b.drop 19)).2=false
 ·rw [if_pos h1] at h; cases h
 rw [if_neg h1] at h ⊢
 have hr:(readG (b.take 19) shC 0 false []).1=true:=by
  cases e:(readG (b.take 19) shC 0 false []).1
  ·exact absurd (.inl e) h1
  ·rfl
 have ha:(awayL (b.drop 19)).2=true:=by
  cases e:(awayL (b.drop 19)).2
  ·exact absurd (.inr e) h1
  ·rfl
 obtain ⟨d1,d2,d3,d4',d5,d6,e0,g1,g2,g3,g4,g5,g6,e1⟩:=read_clock hr
 rw [e1] at h ⊢
 simp only at h ⊢
 split at h
 case isFalse=>cases h
 rename_i hok
 rw [if_pos hok]
 refine ⟨hok.2,?_,rfl⟩
 obtain ⟨o1,o2,o3,o4,o5,o6⟩:=okC_iff.1 hok.2
 obtain ⟨w1,w2⟩:=d4_val g1.1 g1.2
 obtain ⟨w3,w4⟩:=dd_val g2.1 g2.2
 obtain ⟨w5,w6⟩:=dd_val g3.1 g3.2
 obtain ⟨w7,w8⟩:=dd_val g4.1 g4.2
 obtain ⟨w9,w10⟩:=dd_val g5.1 g5.2
 obtain ⟨w11,w12⟩:=dd_val g6.1 g6.2
 have hdn:=date_num hok.1
 have haw:distB (awayL (b.drop 19)).1=b.drop 19:=away_dist ha
 have hne:nm≠[]:=by
  intro e
  have o6:abbrL nm=true:=o6
  rw [e] at o6
  exact absurd o6 (by decide)
 rw [hsp hne]
 unfold ctextB dayL
 simp only
 rw [hdn.1,hdn.2.1,hdn.2.2,(dd_digs (n:=(valL d4':Int)) (by omega) (by omega)).2.2.2,(dd_digs (n:=(valL d5:Int)) (by omega) (by omega)).2.2.2,(dd_digs (n:=(valL d6:Int)) (by omega) (by omega)).2.2.2,
  w1,w3,w5,w7,w9,w11,haw]
 have e9:=List.take_append_drop 19 b
 rw [e0] at e9
 generalize b.drop 19=R at e9 ⊢
 rw [← e9]
 simp
theorem read_D {l:List UInt8} (h:(readG l shD 0 false []).1=true):∃ a b:Int,(readG l shD 0 false []).2=[a,b]∧(0≤a∧a≤99)∧(0≤b∧b≤99):=by
 obtain ⟨d1,r1,e1,a1,b1,c1⟩:=readG_field 2 58 (by decide) l (zs 2) [] false (by decide) h
 have c1:readG l shD 0 false []=_:=c1
 rw [c1] at h ⊢
 obtain ⟨a6,b6,c6⟩:=readG_last 2 r1 _ _ (by decide) h
 rw [c6]
 have:=(dd_val a1 b1).2
 have:=(dd_val a6 b6).2
 exact ⟨_,_,rfl,by omega,by omega⟩
theorem read_E {l:List UInt8} (h:(readG l shE 0 false []).1=true):∃ a b c:Int,(readG l shE 0 false []).2=[a,b,c]∧(0≤a∧a≤99)∧(0≤b∧b≤99)∧(0≤c∧c≤99):=by
 obtain ⟨d1,r1,e1,a1,b1,c1⟩:=readG_field 2 58 (by decide) l (zs 2++58 :: zs 2) [] false (by decide) h
 have c1:readG l shE 0 false []=_:=c1
 rw [c1] at h ⊢
 obtain ⟨d2,r2,e2,a2,b2,c2⟩:=readG_field 2 58 (by decide) r1 _ _ _ (by decide) h
 rw [c2] at h ⊢
 obtain ⟨a6,b6,c6⟩:=readG_last 2 r2 _ _ (by decide) h
 rw [c6]
 have:=(dd_val a1 b1).2
 have:=(dd_val a2 b2).2
 have:=(dd_val a6 b6).2
 exact ⟨_,_,_,rfl,by omega,by omega,by omega⟩
end Go.Proofs.YtbnpclndiichcaaGreatDoor.Pl
end
section
set_option linter.unusedVariables false
set_option linter.unusedSimpArgs false
namespace Go.Proofs.YtbnpclndiichcaaGreatDoor.Pl
open Go Go.Proofs.YtbnpclndiichcaaGreatDoor.Eng
def numM (l:List UInt8):Int:=if l.all isDig=true then (valL l:Int) else -1
def slL (l:List UInt8) (a b:Nat):List UInt8:=(l.drop a).take (b - a)
def secP (l:List UInt8):Prop:=l.getD 25 0=58∧28 < l.length
instance (l:List UInt8):Decidable (secP l):=by unfold secP; exact inferInstance
def offP (l:List UInt8):Int:=if secP l then 3600 * numM (slL l 20 22)+60 * numM (slL l 23 25)+numM (slL l 26 28) else 3600 * numM (slL l 20 22)+60 * numM (slL l 23 25)
def dayQ (l:List UInt8):Int×Int×Int:=(numM (slL l 0 4),numM (slL l 5 7),numM (slL l 8 10))
def pickC (l:List UInt8):Cv :=
 ⟨num (dayQ l).1 (dayQ l).2.1 (dayQ l).2.2,numM (slL l 11 13),numM (slL l 14 16),numM (slL l 17 19),(if l.getD 19 0=45 then 0 - offP l else offP l),false,if secP l then l.drop 29 else l.drop 26⟩
theorem numM_dig {l:List UInt8} (h:∀ c∈l,isDig c=true):numM l=(valL l:Int):=by
 unfold numM
 rw [if_pos (List.all_eq_true.2 h)]
theorem numM_dd {n:Int} (h0:0≤n) (h1:n≤99):numM (dd n)=n:=by
 obtain ⟨_,a,b,_⟩:=dd_digs h0 h1
 rw [numM_dig a,b]; omega
theorem numM_d4 {n:Int} (h0:0≤n) (h1:n≤9999):numM (d4 n)=n:=by
 obtain ⟨_,a,b⟩:=d4_digs h0 h1
 rw [numM_dig a,b]; omega
theorem valL_bd:∀ (l:List UInt8) (acc:Nat),(∀ c∈l,isDig c=true)→l.foldl (fun n c=>10 * n+(c.toNat - 48)) acc < (acc+1) * 10 ^ l.length
 | [],acc,_=>by simp
 | c :: l,acc,h=>by
  have hc:isDig c=true:=h c (.head _)
  unfold isDig at hc
  simp at hc
  have ih:=valL_bd l (10 * acc+(c.toNat - 48)) fun d hd=>h d (.tail _ hd)
  rw [List.foldl_cons,List.length_cons,Nat.pow_succ]
  refine Nat.lt_of_lt_of_le ih ?_
  have:10 * acc+(c.toNat - 48)+1≤(acc+1) * 10:=by omega
  calc (10 * acc+(c.toNat - 48)+1) * 10 ^ l.length≤(acc+1) * 10 * 10 ^ l.length:=Nat.mul_le_mul_right _ this
   _=(acc+1) * (10 ^ l.length * 10):=by rw [Nat.mul_assoc,Nat.mul_comm 10]
theorem numM_bd (l:List UInt8) (k:Nat) (hk:l.length≤k) (h4:k≤4):-1≤numM l∧numM l < 10 ^ k:=by
 unfold numM
 have hp:(0:Int) < 10 ^ k:=Int.pow_pos (by decide)
 split
 ·rename_i h
  have:=valL_bd l 0 (List.all_eq_true.1 h)
  rw [Nat.zero_add,Nat.one_mul] at this
  have h2:10 ^ l.length≤10 ^ k:=Nat.pow_le_pow_right (by omega) hk
  have h3:valL l < 10 ^ k:=Nat.lt_of_lt_of_le this h2
  have h5:((10 ^ k:Nat):Int)=(10:Int) ^ k:=by simp
  omega
 ·omega
theorem slL_len (l:List UInt8) (a b:Nat):(slL l a b).length≤b - a:=by unfold slL; rw [List.length_take]; omega
theorem hms_all (n:Int) (h:0≤n):3600 * (n / 3600)+60 * (n / 60 % 60)+n % 60=n:=by omega
theorem pick_text {c:Cv} (h:okC c=true) (hd:c.dst=false):(26≤(ctextB c).length∧(ctextB c).length≤60)∧Vld (dayQ (ctextB c)).1 (dayQ (ctextB c)).2.1 (dayQ (ctextB c)).2.2∧pickC (ctextB c)=c:=by
 obtain ⟨h1,h2,h3,h4,h5,h6⟩:=okC_iff.1 h
 obtain ⟨vd,v7⟩:=num_date h1.1 h1.2
 obtain ⟨v1,v2,v3,v4,v5,v6⟩:=vd
 have hdim:=dim_bd (yearP c.d) (monP c.d)
 have p4:=(dd_digs (n:=c.h) (by omega) (by omega)).2.2.2
 have q4:=(dd_digs (n:=c.m) (by omega) (by omega)).2.2.2
 have r4:=(dd_digs (n:=c.s) (by omega) (by omega)).2.2.2
 have hab:3≤c.ab.length∧c.ab.length≤16:=by
  unfold abbrL at h6
  simp only [Bool.and_eq_true,decide_eq_true_eq] at h6
  exact h6.1
 obtain ⟨n,hn⟩:∃ n:Int,n=if c.off < 0 then -c.off else c.off:=⟨_,rfl⟩
 have hn0:0≤n∧n≤93599:=by rw [hn]; split <;> omega
 have s4:=(dd_digs (n:=n / 3600) (by omega) (by omega)).2.2.2
 have t4:=(dd_digs (n:=n / 60 % 60) (by omega) (by omega)).2.2.2
 have u4:=(dd_digs (n:=n % 60) (by omega) (by omega)).2.2.2
 have hall:=hms_all n hn0.1
 have e1:=numM_d4 (n:=yearP c.d) (by omega) (by omega)
 have e2:=numM_dd (n:=monP c.d) (by omega) (by omega)
 have e3:=numM_dd (n:=dayP c.d) (by omega) (by omega)
 have e4:=numM_dd (n:=c.h) (by omega) (by omega)
 have e5:=numM_dd (n:=c.m) (by omega) (by omega)
 have e6:=numM_dd (n:=c.s) (by omega) (by omega)
 have e7:=numM_dd (n:=n / 3600) (by omega) (by omega)
 have e8:=numM_dd (n:=n / 60 % 60) (by omega) (by omega)
 have e9:=numM_dd (n:=n % 60) (by omega) (by omega)
 obtain ⟨sg,hsg⟩:∃ sg:UInt8,sg=if c.off < 0 then 45 else 43:=⟨_,rfl⟩
 have hoff:c.off=if sg=45 then 0 - n else n:=by
  rw [hsg,hn]; split <;> simp <;> omega
 by_cases z:n % 60=0
 ·have ht:ctextB c=d4 (yearP c.d)++45 :: (dd (monP c.d)++45 :: (dd (dayP c.d)++84 :: (dd c.h++58 :: (dd c.m++58 :: (dd c.s++sg :: (dd (n / 3600)++58 :: (dd (n / 60 % 60)++32 :: c.ab))))))):=by
   unfold ctextB dayL distB
   rw [← hn,← hsg,p4,q4,r4,s4,t4,if_neg (by simp [z])]
   simp
  have hns:¬ secP (ctextB c):=by
   rw [ht]; rintro ⟨q,_⟩; revert q; show ¬ ((32:UInt8)=58); decide
  have hq:dayQ (ctextB c)=(yearP c.d,monP c.d,dayP c.d):=by
   rw [ht]; show (numM (d4 (yearP c.d)),numM (dd (monP c.d)),numM (dd (dayP c.d)))=_; rw [e1,e2,e3]
  refine ⟨?_,?_,?_⟩
  ·rw [ht]
   simp only [List.length_append,List.length_cons,d4,dd,List.length_nil]
   omega
  ·rw [hq]; exact ⟨v1,v2,v3,v4,v5,v6⟩
  ·unfold pickC offP
   rw [if_neg hns,if_neg hns,hq,v7,ht]
   show (⟨c.d,numM (dd c.h),numM (dd c.m),numM (dd c.s),if sg=45 then 0 - (3600 * numM (dd (n / 3600))+60 * numM (dd (n / 60 % 60))) else 3600 * numM (dd (n / 3600))+60 * numM (dd (n / 60 % 60)),false,c.ab⟩:Cv)=c
   rw [e4,e5,e6,e7,e8,show 3600 * (n / 3600)+60 * (n / 60 % 60)=n by omega,← hoff,← hd]
 ·have ht:ctextB c=d4 (yearP c.d)++45 :: (dd (monP c.d)++45 :: (dd (dayP c.d)++84 :: (dd c.h++58 :: (dd c.m++58 :: (dd c.s++sg :: (dd (n / 3600)++58 :: (dd (n / 60 % 60)++58 :: (dd (n % 60)++32 :: c.ab)))))))):=by
   unfold ctextB dayL distB
   rw [← hn,← hsg,p4,q4,r4,s4,t4,u4,if_pos z]
   simp
  have hlen:(ctextB c).length=29+c.ab.length:=by
   rw [ht]
   simp only [List.length_append,List.length_cons,d4,dd,List.length_nil]
   omega
  have hns:secP (ctextB c):=by
   refine ⟨?_,by omega⟩
   rw [ht]; rfl
  have hq:dayQ (ctextB c)=(yearP c.d,monP c.d,dayP c.d):=by
   rw [ht]; show (numM (d4 (yearP c.d)),numM (dd (monP c.d)),numM (dd (dayP c.d)))=_; rw [e1,e2,e3]
  refine ⟨by omega,?_,?_⟩
  ·rw [hq]; exact ⟨v1,v2,v3,v4,v5,v6⟩
  ·unfold pickC offP
   rw [if_pos hns,if_pos hns,hq,v7,ht]
   show (⟨c.d,numM (dd c.h),numM (dd c.m),numM (dd c.s),if sg=45 then 0 - (3600 * numM (dd (n / 3600))+60 * numM (dd (n / 60 % 60))+numM (dd (n % 60))) else 3600 * numM (dd (n / 3600))+60 * numM (dd (n / 60 % 60))+numM (dd (n % 60)),false,c.ab⟩:Cv)=c
   rw [e4,e5,e6,e7,e8,e9,hall,← hoff,← hd]
theorem pick_parse {s:List UInt8} (h:(cparseL s).2=true):(26≤s.length∧s.length≤60)∧Vld (dayQ s).1 (dayQ s).2.1 (dayQ s).2.2∧pickC s=(cparseL s).1:=by
 obtain ⟨h1,h2,h3⟩:=ctext_parse h
 have:=pick_text h1 h3
 rwa [h2] at this
theorem text_parse {c:Cv} {s:List UInt8} (hd:c.dst=false) (hs:s≠[]) (h:(ctextL c).1=s):cparseL s=(c,true):=by
 unfold ctextL at h
 split at h
 ·rename_i q
  have:=cparse_text q
  rw [show ctextB c=s from h] at this
  rw [this]
  cases c
  simp only at hd
  subst hd
  rfl
 ·exact absurd h.symm hs
end Go.Proofs.YtbnpclndiichcaaGreatDoor.Pl
end
section
set_option linter.unusedVariables false
set_option linter.unusedSimpArgs false
namespace Go.Proofs.YtbnpclndiichcaaGreatDoor.Pl
open Go Go.Proofs.YtbnpclndiichcaaGreatDoor.Eng
def be:Nat→Int→List UInt8
 | 0,_=>[]
 | k+1,n=>UInt8.ofNat ((n / (256:Int) ^ k) % 256).toNat :: be k n
theorem pow_pos (k:Nat):0 < (256:Int) ^ k:=Int.pow_pos (by decide)
end Go.Proofs.YtbnpclndiichcaaGreatDoor.Pl
end
section
set_option linter.unusedVariables false
set_option linter.unusedSimpArgs false
namespace Go.Proofs.YtbnpclndiichcaaGreatDoor.Pl
open Go Go.Proofs.YtbnpclndiichcaaGreatDoor.Eng
theorem wi32_in (n:Int):(wi32 n=n)↔(-2147483648≤n∧n≤2147483647):=by
 simp only [wi32,IntKind.wrap,IntKind.bits,IntKind.signed]
 simp
 split <;> omega
end Go.Proofs.YtbnpclndiichcaaGreatDoor.Pl
end
section
set_option linter.unusedVariables false
set_option linter.unusedSimpArgs false
namespace Go.Proofs.YtbnpclndiichcaaGreatDoor
open Go Go.Proofs.YtbnpclndiichcaaGreatDoor.Eng Go.Proofs.YtbnpclndiichcaaGreatDoor.Pl
theorem sHasPrefix (l:List UInt8) (c:UInt8) {K} (h:K (l.head? == some c)):Xq03 (S l) (S [c]) K:=by
 unfold Xq03 Yq03
 simp only [S_size,S_extract,S_toList,decide_eq_true_eq,ge_iff_le,List.length_singleton]
 cases l with
 | nil=>exact ifF (by simp) h
 | cons a l =>
  refine ifT (by simp; omega) (ifT (by simp; omega) ?_)
  have e:((List.take (Int.toNat (((1:Nat):Int)) - 0) (List.drop 0 (a :: l)) == [c]):Bool)=((a :: l).head? == some c):=by
   simp
  rw [e]; exact h
theorem sCutPrefix (l:List UInt8) (c:UInt8) {K} (h:K (S (cutP c l).1) (cutP c l).2):Xq0r (S l) (S [c]) K:=by
 unfold Xq0r Yq0r Xq02 Yq02
 refine sHasPrefix l c ?_
 unfold cutP at h
 by_cases e:l.head? = some c
 ·rw [if_pos e] at h
  refine ifF (by simp [e]) ?_
  have hl:1≤l.length:=by cases l <;> simp at e ⊢
  simp only [S_size,S_extract,List.length_singleton]
  refine ifT (by omega) (ifT (by omega) ?_)
  have e2:(l.drop (Int.toNat ((1:Nat):Int))).take (Int.toNat (l.length:Int) - Int.toNat ((1:Nat):Int))=l.tail:=by
   rw [List.take_of_length_le (by simp)]; simp
  rw [e2]; exact h
 ·rw [if_neg e] at h
  exact ifT (by simp [e]) h
theorem sIndex (l:List UInt8) (c:UInt8) {K} (h:K (if nl (· == c) l < l.length then (nl (· == c) l:Int) else -1)):Xq04 (S l) (S [c]) K:=by
 unfold Xq04 Yq04
 simp only [S_size,S_toList,beq_iff_eq,List.length_singleton]
 refine ifF (by decide) (ifC (fun e=>?_) fun _=>ifT rfl (ifT (by decide) ?_))
 ·subst e
  have:nl (· == c) [c]=0:=by rw [nl_cons]; simp
  rw [this] at h; exact h
 ·unfold Xq4j
  rw [indexByte_nl,S_data]
  have:(Eng.bAt (S [c]) 0).toNat.toUInt8=c:=by rw [bAt0]; simp
  rw [this]; exact h
theorem sCut (l:List UInt8) (c:UInt8) (hl:l.length≤140737488351232) {K} (h:K (S (splitL c l).1) (S (splitL c l).2.1) (splitL c l).2.2):Xq3c (S l) (S [c]) K:=by
 unfold Xq3c Yq3c Xq05 Yq05
 refine sIndex l c ?_
 unfold splitL at h
 simp only [S_size,S_extract,List.length_singleton,decide_eq_true_eq,ge_iff_le]
 by_cases e:nl (· == c) l < l.length
 ·rw [if_pos e] at h
  simp only [if_pos e]
  rw [w64_in (by omega) (by omega)]
  refine ifT (by omega) (ifT (by omega) (ifT (by omega) (ifT (by omega) (ifT (by omega) ?_))))
  have e1:Int.toNat ((nl (· == c) l:Int)+((1:Nat):Int))=nl (· == c) l+1:=by omega
  have e2:Int.toNat ((nl (· == c) l:Int))=nl (· == c) l:=by omega
  rw [e1,e2]
  rw [show (l.drop (nl (· == c) l+1)).take (Int.toNat (l.length:Int) - (nl (· == c) l+1))=l.drop (nl (· == c) l+1) from List.take_of_length_le (by simp)]
  exact h
 ·rw [if_neg e] at h
  simp only [if_neg e]
  exact ifF (by omega) h
theorem sTrimPrefix (l:List UInt8) (c:UInt8) {K} (h:K (S (cutP c l).1)):Xq0b (S l) (S [c]) K:=by
 unfold Xq0b Yq0b Xq01 Yq01
 refine sHasPrefix l c ?_
 unfold cutP at h
 by_cases e:l.head? = some c
 ·rw [if_pos e] at h
  refine ifT (by simp [e]) ?_
  have hl:1≤l.length:=by cases l <;> simp at e ⊢
  simp only [S_size,S_extract,List.length_singleton]
  refine ifT (by omega) (ifT (by omega) ?_)
  have e2:(l.drop (Int.toNat ((1:Nat):Int))).take (Int.toNat (l.length:Int) - Int.toNat ((1:Nat):Int))=l.tail:=by
   rw [List.take_of_length_le (by simp)]; simp
  rw [e2]; exact h
 ·rw [if_neg e] at h
  exact ifF (by simp [e]) h
theorem sIndexFunc {x:Int→(Bool→Prop)→Prop} (q:UInt8→Bool) (hx:∀ (c:UInt8) (K:Bool→Prop),c.toNat < 128→K (q c)→x (c.toNat:Int) K) (hx':∀ (n:Nat) (K:Bool→Prop),128≤n→K true→x (n:Int) K)
  (hq:∀ c:UInt8,128≤c.toNat→q c=true) (l:List UInt8) {K:Int→Prop} (h:K (if nl q l < l.length then (nl q l:Int) else -1)):Yq0n x (S l) true K:=by
 unfold Yq0n
 refine lp_ind (fun st=>l.length - st.2.1.2) (fun st=>st.1.2.1=true∧st.2.1.1=S l∧st.2.1.2≤l.length∧∀ c∈l.take st.2.1.2,q c=false) ?_ ⟨rfl,rfl,Nat.zero_le _,by simp⟩
 rintro ⟨⟨⟨_,_⟩,b,r,_,_⟩,⟨s,pos⟩,_⟩ ⟨h1,h2,h3,h4⟩ k hk
 simp only at h1 h2 h3 h4 hk
 subst h1; subst h2
 unfold Lq0n_0
 simp only [S_size]
 refine ifC (fun hp=>?_) fun hp=>?_
 ·by_cases hlo:l[pos].toNat < 128
  ·simp only [decode_lo l pos hp hlo]
   refine hx _ _ hlo ?_
   refine ifC (fun hb=>?_) fun hb=>?_
   ·have hn:nl q l=pos:=nl_of q l pos h3 h4 fun _=>by simpa using hb
    rw [hn,if_pos hp] at h; exact h
   ·refine hk _ ⟨rfl,rfl,hp,fun c hc=>?_⟩ (by simp only; omega)
    rw [List.take_add_one,List.mem_append] at hc
    rcases hc with hc | hc
    ·exact h4 c hc
    ·simp [List.getElem?_eq_getElem hp] at hc
     subst hc; simpa using hb
  ·obtain ⟨d1,d2⟩:=decode_hi l pos hp (by omega)
   refine hx' _ _ d1 (ifT rfl ?_)
   have hn:nl q l=pos:=nl_of q l pos h3 h4 fun _=>hq _ (by omega)
   rw [hn,if_pos hp] at h; exact h
 ·have hpos:pos=l.length:=by omega
  have hn:nl q l=l.length:=nl_of q l _ (Nat.le_refl _) (by rw [← hpos]; exact h4) fun h=>by omega
  rw [hn,if_neg (by omega)] at h; exact h
theorem sgood (n:Int) {K} (h:K (decide ((97≤n∧n≤122)∨(65≤n∧n≤90)∨(48≤n∧n≤57)∨n=43∨n=45))):Xq49 n K:=by
 unfold Xq49 Yq49
 simp only [decide_eq_true_eq,beq_iff_eq,ge_iff_le]
 repeat' (first | refine ifT (by omega) ?_ | refine ifF (by omega) ?_ | refine ifC (fun _=>?_) (fun _=>?_))
 all_goals (refine cast (congrArg K ?_) h; first | (rw [decide_eq_true_eq]; omega) | (rw [decide_eq_false_iff_not]; omega) | (apply Bool.eq_iff_iff.2; rw [decide_eq_true_eq,beq_iff_eq]; omega))
theorem sbad (n:Int) {K} (h:K (!decide ((97≤n∧n≤122)∨(65≤n∧n≤90)∨(48≤n∧n≤57)∨n=43∨n=45))):Xq2s n K:=by
 unfold Xq2s Yq2s
 exact sgood n h
theorem sabbr (l:List UInt8) {K} (h:K (abbrL l)):Xq3r (S l) K:=by
 unfold Xq3r Yq3r
 unfold abbrL at h
 simp only [decide_eq_true_eq,ge_iff_le,S_size]
 by_cases e:3≤l.length∧l.length≤16
 ·refine ifT (by omega) (ifT (by omega) ?_)
  unfold Xq07 Yq07 Xq0s Yq0s Xq0n
  refine sIndexFunc badC (fun c K hc h=>sbad _ (cast (congrArg K ?_) h)) (fun n K hn h=>sbad _ (cast (congrArg K ?_) h)) (fun c hc=>?_) l ?_
  ·unfold badC; apply Bool.eq_iff_iff.2; simp; omega
  ·symm; simp; omega
  ·unfold badC; simp; omega
  ·rw [decide_eq_true e,Bool.true_and,nl_any] at h
   by_cases e2:nl badC l < l.length
   ·rw [if_pos e2]; rw [decide_eq_true e2] at h
    refine cast (congrArg K ?_) h; simp
   ·rw [if_neg e2]; rw [decide_eq_false e2] at h
    refine cast (congrArg K ?_) h; simp
 ·rw [decide_eq_false e,Bool.false_and] at h
  exact ifC (fun _=>ifF (by omega) h) fun _=>h
end Go.Proofs.YtbnpclndiichcaaGreatDoor
end
section
set_option linter.unusedVariables false
set_option linter.unusedSimpArgs false
namespace Go.Proofs.YtbnpclndiichcaaGreatDoor
open Go Go.Proofs.YtbnpclndiichcaaGreatDoor.Eng Go.Proofs.YtbnpclndiichcaaGreatDoor.Pl
theorem dl_of (l:List UInt8) (k:Nat) (hk:k≤l.length) (h1:∀ c∈l.take k,isDig c=true) (h2:∀ h:k < l.length,isDig l[k]=false):dl l=k:=by
 have:=nl_of (fun c=>!isDig c) l k hk (fun c hc=>by simp [h1 c hc]) (fun h=>by simp [h2 h])
 rw [← this]; unfold nl dl; simp
theorem sdigits (l:List UInt8) {K} (h:K (dl l:Int)):Xq3g (S l) K:=by
 unfold Xq3g Yq3g
 refine lp_ind (fun st=>l.length - st.2.1.2) (fun st=>st.1.1=S l∧st.2.1.1=S l∧st.2.1.2≤l.length∧∀ c∈l.take st.2.1.2,isDig c=true) ?_ ⟨rfl,rfl,Nat.zero_le _,by simp⟩
 rintro ⟨⟨a0,r,_,_⟩,⟨s,pos⟩,_⟩ ⟨h1,h2,h3,h4⟩ k hk
 simp only at h1 h2 h3 h4 hk
 subst h1; subst h2
 unfold Lq3g_0
 simp only [S_size,decide_eq_true_eq,gt_iff_lt]
 refine ifC (fun hp=>?_) fun hp=>?_
 ·by_cases hlo:l[pos].toNat < 128
  ·simp only [decode_lo l pos hp hlo]
   by_cases hd:isDig l[pos]=true
   ·have hd':=hd
    unfold isDig at hd'
    simp at hd'
    refine ifF (by omega) (ifF (by omega) ?_)
    refine hk _ ⟨rfl,rfl,hp,fun c hc=>?_⟩ (by simp only; omega)
    rw [List.take_add_one,List.mem_append] at hc
    rcases hc with hc | hc
    ·exact h4 c hc
    ·simp [List.getElem?_eq_getElem hp] at hc
     subst hc; exact hd
   ·have hn:dl l=pos:=dl_of l pos h3 h4 fun _=>by simpa using hd
    have hd':=hd
    unfold isDig at hd'
    simp at hd'
    rw [hn] at h
    exact ifC (fun _=>h) fun _=>ifT (by omega) h
  ·obtain ⟨d1,d2⟩:=decode_hi l pos hp (by omega)
   have hn:dl l=pos:=dl_of l pos h3 h4 fun _=>by unfold isDig; simp; omega
   rw [hn] at h
   exact ifF (by omega) (ifT (by omega) h)
 ·have hpos:pos=l.length:=by omega
  have hn:dl l=l.length:=dl_of l _ (Nat.le_refl _) (by rw [← hpos]; exact h4) fun h=>by omega
  rw [hn] at h; exact h
theorem satoi (l:List UInt8) (hne:l≠[]) (hd:∀ c∈l,isDig c=true) (hl:l.length≤18) {K} (h:K (valL l:Int) .nilIface):Xatoi (S l) K :=
 ⟨_,by rw [S_size]; exact hl,by rw [S_data]; exact atoi_val l hne hd,h⟩
theorem sitoa (n:Int) (h0:-9223372036854775808≤n) (h1:n≤9223372036854775807) {K} (h:K (S (itoaK n))):Xitoa n K :=
 ⟨⟨h0,h1⟩,by rw [← itoaK_eq n h0 h1]; exact h⟩
theorem ssixty (l:List UInt8) {K} (h:K (sixtyL l).1 (S (sixtyL l).2.1) (sixtyL l).2.2):Xq3y (S l) K:=by
 unfold Xq3y Yq3y
 simp only [S_size,S_extract,decide_eq_true_eq,gt_iff_lt,bne_iff_ne,ne_eq]
 match l,h with
 | [],h=>exact ifT (by simp) h
 | [_],h=>exact ifT (by simp) h
 | [_,_],h=>exact ifT (by simp) h
 | c :: a :: b :: r,h =>
  have hlen:(c :: a :: b :: r).length=r.length+3:=rfl
  rw [hlen]
  refine ifF (by omega) (ifT (by omega) ?_)
  rw [bAt0,bAt1]
  simp only [sixtyL] at h
  by_cases hc:c=58
  ·subst hc
   refine ifF (by simp) (ifT (by omega) (ifT (by omega) ?_))
   have e1:((58 :: a :: b :: r).drop 1).take (Int.toNat ((r.length+3:Nat):Int) - 1)=a :: b :: r:=by
    rw [List.drop_succ_cons,List.drop_zero,List.take_of_length_le (by simp; omega)]
   rw [e1]
   refine sdigits _ ?_
   rw [dl_cons,dl_cons]
   by_cases ha:isDig a=true
   ·by_cases hb:isDig b=true
    ·rw [if_pos ha,if_pos hb]
     refine ifF (by omega) (ifT (by omega) ?_)
     by_cases h5:a.toNat≤53
     ·rw [if_pos ⟨rfl,ha,hb,h5⟩] at h
      refine ifF (by omega) (ifT (by omega) ?_)
      have e2:((58 :: a :: b :: r).drop 1).take (3 - 1)=[a,b]:=rfl
      rw [e2]
      refine satoi [a,b] (by simp) (by simp [ha,hb]) (by simp) (ifT (by omega) (ifT (by omega) ?_))
      have e3:((58 :: a :: b :: r).drop 3).take (Int.toNat ((r.length+3:Nat):Int) - 3)=r:=by
       rw [show (58 :: a :: b :: r).drop 3=r from rfl,List.take_of_length_le (by omega)]
      rw [e3]
      unfold isDig at ha hb
      simp at ha hb
      have e4:(valL [a,b]:Int)=10 * (a.toNat - 48)+(b.toNat - 48):=by simp [valL]; omega
      rw [e4]; exact h
     ·rw [if_neg (by rintro ⟨_,_,_,h⟩; exact h5 h)] at h
      exact ifT (by omega) h
    ·rw [if_neg (by rintro ⟨_,_,h,_⟩; exact hb h)] at h
     rw [if_pos ha,if_neg hb]
     exact ifT (by omega) h
   ·rw [if_neg (by rintro ⟨_,h,_⟩; exact ha h)] at h
    rw [if_neg ha]
    exact ifT (by omega) h
  ·rw [if_neg (by rintro ⟨h,_⟩; exact hc h)] at h
   refine ifT (fun h=>hc (u8_eq ?_)) h
   have:c.toNat=58:=by omega
   exact this
theorem smore (p:Int×List UInt8×Bool) {K} (h:K (moreL p).1 (S (moreL p).2.1) (moreL p).2.2):Xq4e (S p.2.1) p.2.2 K:=by
 unfold Xq4e Yq4e
 unfold moreL at h
 by_cases e:p.2.2=true
 ·rw [if_pos e] at h
  exact ifF (by simp [e]) (ssixty _ h)
 ·rw [if_neg e] at h
  exact ifT (by simpa using e) h
theorem more_bd (t:List UInt8):0≤(moreL (sixtyL t)).1∧(moreL (sixtyL t)).1≤59:=by
 unfold moreL; split
 ·exact sixty_bd _
 ·simp
theorem stime (l:List UInt8) (hl:l.length≤140737488351232) {K} (h:K (timeL l).1 (S (timeL l).2.1) (timeL l).2.2):Xq4l (S l) K:=by
 unfold Xq4l Yq4l
 have key:∀ (t:List UInt8) (sg:Int),(sg=1∨sg=-1)→t.length≤l.length→signL l=(sg,t) →
   (dl t=0→K 0 (S l) false)∧(dl t≠0→∃ v k:Nat,hourL t=(v,k)∧v≤167∧1≤k∧k≤dl t∧k≤3 ∧
    K (sg * ((v:Int) * 3600+(sixtyL (t.drop k)).1 * 60+(moreL (sixtyL (t.drop k))).1)) (S (moreL (sixtyL (t.drop k))).2.1) true):=by
  intro t sg hsg ht he
  unfold timeL at h
  rw [he] at h
  refine ⟨fun h0=>by rw [if_pos h0] at h; exact h,fun h0=>?_⟩
  rw [if_neg h0] at h
  obtain ⟨b1,b2,b3,b4⟩:=hour_bd t
  exact ⟨_,_,rfl,b1,b4 h0,b2,b3,h⟩
 have mn:∀ t:List UInt8,(if (3:Int) < (dl t:Int) then (3:Int) else (dl t:Int))=((min (dl t) 3:Nat):Int):=fun t=>by split <;> omega
 have hval:∀ t:List UInt8,dl t≠0→∀ {K:Int→Value→Prop},K (valL (t.take (min (dl t) 3)):Int) .nilIface→Xatoi (S ((t.drop 0).take (Int.toNat ((min (dl t) 3:Nat):Int) - 0))) K:=fun t h0 K hK=>by
  rw [List.drop_zero,Nat.sub_zero,Int.toNat_natCast]
  have hlen:(t.take (min (dl t) 3)).length=min (dl t) 3:=by rw [List.length_take]; have:=dl_le t; omega
  exact satoi _ (fun e=>by rw [e] at hlen; simp at hlen; omega) (take_dl_dig t _ (Nat.min_le_left _ _)) (by omega) hK
 have tdiv:∀ v:Nat,Int.tdiv (v:Int) 10=((v / 10:Nat):Int):=fun v=>by rw [Int.tdiv_eq_ediv_of_nonneg (by omega)]; rfl
 have fin:∀ (t:List UInt8) (k:Nat),(t.drop k).take (t.length - k)=t.drop k:=fun t k=>List.take_of_length_le (by simp)
 refine sTrimPrefix l 45 ?_
 by_cases h45:l.head? = some 45
 ·obtain ⟨t,rfl⟩:∃ t,l=45 :: t:=by cases l with
   | nil=>simp at h45
   | cons a t=>simp at h45; subst h45; exact ⟨t,rfl⟩
  have e:(cutP 45 (45 :: t)).1=t:=rfl
  rw [e]
  obtain ⟨k1,k2⟩:=key t (-1) (.inr rfl) (by simp) rfl
  have hdl:=dl_le t
  simp only [S_size,S_extract,beq_iff_eq,decide_eq_true_eq,gt_iff_lt]
  simp only [List.length_cons] at hl ⊢
  refine ifF (by omega) (sdigits _ ?_)
  rw [mn]
  refine ifC (fun h0=>k1 (by omega)) fun h0=>?_
  have h0':dl t≠0:=by omega
  obtain ⟨v,kk,hh,b1,b2,b3,b4,hK⟩:=k2 h0'
  refine ifT (by omega) (ifT (by omega) (hval t h0' ?_))
  unfold hourL at hh
  by_cases hg:valL (t.take (min (dl t) 3)) > 167
  ·rw [if_pos hg] at hh
   obtain ⟨rfl,rfl⟩:_=v∧_=kk:=by simpa using hh
   refine ifT (by omega) (ifT (by omega) ?_)
   rw [w64_in (n:=((min (dl t) 3:Nat):Int) - 1) (by omega) (by omega),show ((min (dl t) 3:Nat):Int) - 1=((min (dl t) 3 - 1:Nat):Int) by omega]
   refine ifT (by omega) ?_
   simp only [lt,Int.toNat_natCast,fin,tdiv]
   refine ssixty _ (smore _ ?_)
   have hs:=sixty_bd (t.drop (min (dl t) 3 - 1))
   have hm:=more_bd (t.drop (min (dl t) 3 - 1))
   generalize valL (t.take (min (dl t) 3)) / 10=v at *
   generalize (sixtyL (t.drop (min (dl t) 3 - 1))).1=a at *
   generalize (moreL (sixtyL (t.drop (min (dl t) 3 - 1)))).1=b at *
   rw [w64_in (n:=(v:Int)) (by omega) (by omega),w64_in (n:=(v:Int) * 3600) (by omega) (by omega),w64_in (n:=a * 60) (by omega) (by omega),w64_in (n:=(v:Int) * 3600+a * 60) (by omega) (by omega),w64_in (n:=(v:Int) * 3600+a * 60+b) (by omega) (by omega),w64_in (by omega) (by omega)]
   exact hK
  ·rw [if_neg hg] at hh
   obtain ⟨rfl,rfl⟩:_=v∧_=kk:=by simpa using hh
   refine ifF (by omega) (ifT (by omega) (ifT (by omega) ?_))
   simp only [lt,Int.toNat_natCast,fin]
   refine ssixty _ (smore _ ?_)
   have hs:=sixty_bd (t.drop (min (dl t) 3))
   have hm:=more_bd (t.drop (min (dl t) 3))
   generalize valL (t.take (min (dl t) 3))=v at *
   generalize (sixtyL (t.drop (min (dl t) 3))).1=a at *
   generalize (moreL (sixtyL (t.drop (min (dl t) 3)))).1=b at *
   rw [w64_in (n:=(v:Int) * 3600) (by omega) (by omega),w64_in (n:=a * 60) (by omega) (by omega),w64_in (n:=(v:Int) * 3600+a * 60) (by omega) (by omega),w64_in (n:=(v:Int) * 3600+a * 60+b) (by omega) (by omega),w64_in (by omega) (by omega)]
   exact hK
 ·have e:(cutP 45 l).1=l:=by unfold cutP; rw [if_neg h45]
  rw [e]
  refine ifT (by simp) (sTrimPrefix l 43 ?_)
  have hs:∃ t,signL l=(1,t)∧(cutP 43 l).1=t∧t.length≤l.length:=by
   unfold signL cutP
   cases l with
   | nil=>exact ⟨[],rfl,rfl,Nat.le_refl _⟩
   | cons a r =>
    have ha:a≠45:=by simpa using h45
    simp only [if_neg ha,List.head?_cons,Option.some.injEq,List.tail_cons]
    by_cases h43:a=43
    ·simp [h43]
    ·simp [h43]
  obtain ⟨t,h1,h2,h3⟩:=hs
  rw [h2]
  obtain ⟨k1,k2⟩:=key t 1 (.inl rfl) h3 h1
  have hdl:=dl_le t
  simp only [S_size,S_extract,beq_iff_eq,decide_eq_true_eq,gt_iff_lt]
  refine sdigits _ ?_
  rw [mn]
  refine ifC (fun h0=>k1 (by omega)) fun h0=>?_
  have h0':dl t≠0:=by omega
  obtain ⟨v,kk,hh,b1,b2,b3,b4,hK⟩:=k2 h0'
  refine ifT (by omega) (ifT (by omega) (hval t h0' ?_))
  unfold hourL at hh
  by_cases hg:valL (t.take (min (dl t) 3)) > 167
  ·rw [if_pos hg] at hh
   obtain ⟨rfl,rfl⟩:_=v∧_=kk:=by simpa using hh
   refine ifT (by omega) (ifT (by omega) ?_)
   rw [w64_in (n:=((min (dl t) 3:Nat):Int) - 1) (by omega) (by omega),show ((min (dl t) 3:Nat):Int) - 1=((min (dl t) 3 - 1:Nat):Int) by omega]
   refine ifT (by omega) ?_
   simp only [lt,Int.toNat_natCast,fin,tdiv]
   refine ssixty _ (smore _ ?_)
   have hs:=sixty_bd (t.drop (min (dl t) 3 - 1))
   have hm:=more_bd (t.drop (min (dl t) 3 - 1))
   generalize valL (t.take (min (dl t) 3)) / 10=v at *
   generalize (sixtyL (t.drop (min (dl t) 3 - 1))).1=a at *
   generalize (moreL (sixtyL (t.drop (min (dl t) 3 - 1)))).1=b at *
   rw [w64_in (n:=(v:Int)) (by omega) (by omega),w64_in (n:=(v:Int) * 3600) (by omega) (by omega),w64_in (n:=a * 60) (by omega) (by omega),w64_in (n:=(v:Int) * 3600+a * 60) (by omega) (by omega),w64_in (n:=(v:Int) * 3600+a * 60+b) (by omega) (by omega),w64_in (by omega) (by omega)]
   exact hK
  ·rw [if_neg hg] at hh
   obtain ⟨rfl,rfl⟩:_=v∧_=kk:=by simpa using hh
   refine ifF (by omega) (ifT (by omega) (ifT (by omega) ?_))
   simp only [lt,Int.toNat_natCast,fin]
   refine ssixty _ (smore _ ?_)
   have hs:=sixty_bd (t.drop (min (dl t) 3))
   have hm:=more_bd (t.drop (min (dl t) 3))
   generalize valL (t.take (min (dl t) 3))=v at *
   generalize (sixtyL (t.drop (min (dl t) 3))).1=a at *
   generalize (moreL (sixtyL (t.drop (min (dl t) 3)))).1=b at *
   rw [w64_in (n:=(v:Int) * 3600) (by omega) (by omega),w64_in (n:=a * 60) (by omega) (by omega),w64_in (n:=(v:Int) * 3600+a * 60) (by omega) (by omega),w64_in (n:=(v:Int) * 3600+a * 60+b) (by omega) (by omega),w64_in (by omega) (by omega)]
   exact hK
end Go.Proofs.YtbnpclndiichcaaGreatDoor
end
section
set_option linter.unusedVariables false
set_option linter.unusedSimpArgs false
namespace Go.Proofs.YtbnpclndiichcaaGreatDoor
open Go Go.Proofs.YtbnpclndiichcaaGreatDoor.Eng Go.Proofs.YtbnpclndiichcaaGreatDoor.Pl
theorem take_all (t:List UInt8) (k:Nat):(t.drop k).take (t.length - k)=t.drop k:=List.take_of_length_le (by simp)
theorem swithin (n a b:Int) {K} (h:K (decide (a≤n∧n≤b))):Xq3e n a b K:=by
 unfold Xq3e Yq3e
 simp only [decide_eq_true_eq,ge_iff_le]
 refine ifC (fun h1=>cast (congrArg K ?_) h) fun h1=>cast (congrArg K ?_) h
 ·simp [h1]
 ·simp [h1]
theorem sruleRight (k a b c x:Int) {K} (h:K (rightR k a b c x)):Xq44 (k,a,b,c,x,()) K:=by
 unfold Xq44 Yq44
 simp only [beq_iff_eq,decide_eq_true_eq,gt_iff_lt]
 refine swithin _ _ _ ?_
 have fin:∀ z:Bool,(z=true↔((-604799≤x∧x≤604799)∧((k=0∧1≤a∧a≤12∧1≤b∧b≤5∧0≤c∧c≤6)∨(k=1∧1≤a∧a≤365∧b=0∧c=0)∨(k=2∧0≤a∧a≤365∧b=0∧c=0))))→K z:=fun z hz =>
  cast (congrArg K (Bool.eq_iff_iff.2 ((right_iff k a b c x).trans hz.symm))) h
 clear h
 refine ifC (fun k0=>?_) fun k0=>?_
 ·refine ifC (fun hx=>?_) fun hx=>fin _ ?_
  ·refine swithin _ _ _ (ifC (fun ha=>swithin _ _ _ (ifC (fun hb=>swithin _ _ _ (fin _ ?_)) fun hb=>fin _ ?_)) fun ha=>fin _ ?_)
   all_goals (simp only [decide_eq_true_eq,Bool.false_eq_true,false_iff] at *; omega)
  ·simp only [decide_eq_true_eq,Bool.false_eq_true,false_iff] at *; omega
 ·refine ifC (fun k1=>?_) fun k1=>ifC (fun k2=>?_) fun k2=>fin _ (by simp only [Bool.false_eq_true,false_iff]; omega)
  ·refine ifC (fun hx=>ifC (fun ha=>swithin _ _ _ (ifC (fun hb=>ifC (fun hc=>fin _ ?_) fun hc=>fin _ ?_) fun hb=>fin _ ?_)) fun ha=>fin _ ?_) fun hx=>fin _ ?_
   all_goals (simp only [decide_eq_true_eq,Bool.false_eq_true,false_iff,beq_iff_eq] at *; omega)
  ·refine ifC (fun hx=>swithin _ _ _ (ifC (fun hb=>ifC (fun hc=>fin _ ?_) fun hc=>fin _ ?_) fun hb=>fin _ ?_)) fun hx=>fin _ ?_
   all_goals (simp only [decide_eq_true_eq,Bool.false_eq_true,false_iff,beq_iff_eq] at *; omega)
theorem snumber (l:List UInt8) (m:Nat) (hm:m≤18) {K} (h:K (numberL l m).1 (S (numberL l m).2.1) (numberL l m).2.2):Xq39 (S l) (m:Int) K:=by
 unfold Xq39 Yq39
 refine sdigits _ ?_
 have hd:=dl_le l
 unfold numberL at h
 simp only [beq_iff_eq,decide_eq_true_eq,gt_iff_lt,S_size,S_extract,Int.toNat_natCast,take_all,List.drop_zero,Nat.sub_zero]
 by_cases e:dl l=0∨m < dl l
 ·rw [if_pos e] at h
  exact ifC (fun _=>h) fun _=>ifT (by omega) h
 ·rw [if_neg e] at h
  refine ifF (by omega) (ifF (by omega) (ifT (by omega) (ifT (by omega) ?_)))
  have hlen:(l.take (dl l)).length=dl l:=by rw [List.length_take]; omega
  exact satoi _ (fun e=>by rw [e] at hlen; simp at hlen; omega) (take_dl_dig l _ (Nat.le_refl _)) (by omega) (ifT (by omega) (ifT (by omega) h))
theorem sweek (l:List UInt8) {K} (h:K (0,(weekL l).1,(weekL l).2.1,(weekL l).2.2.1,0,()) (S (weekL l).2.2.2.1) (weekL l).2.2.2.2):Xq4b (S l) K:=by
 unfold Xq4b Yq4b
 refine snumber l 2 (by omega) (sCutPrefix _ _ (snumber _ 1 (by omega) (sCutPrefix _ _ (snumber _ 1 (by omega) ?_))))
 unfold weekL at h
 generalize numberL l 2=p at *
 generalize cutP 46 p.2.1=q at *
 generalize numberL q.1 1=r at *
 generalize cutP 46 r.2.1=t at *
 generalize numberL t.1 1=u at *
 obtain ⟨p1,p2,p3⟩:=p
 obtain ⟨q1,q2⟩:=q
 obtain ⟨r1,r2,r3⟩:=r
 obtain ⟨t1,t2⟩:=t
 obtain ⟨u1,u2,u3⟩:=u
 simp only at h ⊢
 cases p3 <;> cases r3 <;> cases u3 <;> cases q2 <;> simpa using h
theorem sdate (l:List UInt8) {K} (h:K ((dateL l).1,(dateL l).2.1,(dateL l).2.2.1,(dateL l).2.2.2.1,0,()) (S (dateL l).2.2.2.2.1) (dateL l).2.2.2.2.2):Xq4h (S l) K:=by
 unfold Xq4h Yq4h
 refine sCutPrefix _ _ ?_
 unfold dateL at h
 unfold cutP
 by_cases e:l.head? = some 77
 ·rw [if_pos e] at h ⊢
  exact ifT rfl (sweek _ h)
 ·rw [if_neg e] at h ⊢
  refine ifF (by simp) (sCutPrefix _ _ ?_)
  unfold cutP
  by_cases e2:l.head? = some 74
  ·rw [if_pos e2] at h ⊢
   exact ifT rfl (snumber _ 3 (by omega) h)
  ·rw [if_neg e2] at h ⊢
   exact ifF (by simp) (snumber _ 3 (by omega) h)
theorem date_len (l:List UInt8):(dateL l).2.2.2.2.1.length≤l.length:=by
 obtain ⟨j,_,e,_⟩:=dateL_drop l
 rw [e,List.length_drop]; omega
theorem sruleParse (l:List UInt8) (hl:l.length≤140737488351232) {K} (h:K ((parseL l).1,(parseL l).2.1,(parseL l).2.2.1,(parseL l).2.2.2.1,(parseL l).2.2.2.2.1,()) (S (parseL l).2.2.2.2.2.1) (parseL l).2.2.2.2.2.2):Xq3i (S l) K:=by
 unfold Xq3i Yq3i
 refine sdate _ (sCutPrefix _ _ ?_)
 have hlen:=date_len l
 unfold parseL at h
 generalize dateL l=d at *
 obtain ⟨dk,da,db,dc,dt,ok⟩:=d
 simp only at h hlen ⊢
 unfold cutP
 by_cases e:dt.head? = some 47
 ·rw [if_pos e] at h ⊢
  cases ok
  ·simp only [Bool.false_eq_true,if_false] at h
   exact ifF (by simp) (ifT rfl h)
  ·simp only [if_true] at h
   refine ifT rfl (ifT rfl (stime _ (by rw [List.length_tail]; omega) ?_))
   by_cases e2:(timeL dt.tail).2.2=true
   ·refine ifF (by simp [e2]) (sruleRight _ _ _ _ _ ?_)
    by_cases e3:rightR dk da db dc (timeL dt.tail).1=true
    ·rw [if_pos ⟨e2,e3⟩] at h
     exact ifF (by simp [e3]) h
    ·rw [if_neg (fun h=>e3 h.2)] at h
     exact ifT (by simpa using e3) h
   ·rw [if_neg (fun h=>e2 h.1)] at h
    exact ifT (by simpa using e2) h
 ·rw [if_neg e] at h ⊢
  cases ok
  ·simp only [Bool.false_eq_true,if_false] at h
   exact ifF (by simp) (ifT rfl h)
  ·simp only [if_true] at h
   refine ifT rfl (ifF (by simp) (ifF (by simp) (sruleRight _ _ _ _ _ ?_)))
   by_cases e3:rightR dk da db dc 7200=true
   ·rw [if_pos e3] at h
    exact ifF (by simp [e3]) h
   ·rw [if_neg e3] at h
    exact ifT (by simpa using e3) h
end Go.Proofs.YtbnpclndiichcaaGreatDoor
end
section
set_option linter.unusedVariables false
set_option linter.unusedSimpArgs false
namespace Go.Proofs.YtbnpclndiichcaaGreatDoor
open Go Go.Proofs.YtbnpclndiichcaaGreatDoor.Eng Go.Proofs.YtbnpclndiichcaaGreatDoor.Pl
theorem tmod_leap (y:Int):(Int.tmod y 4=0↔y % 4=0)∧(Int.tmod y 100=0↔y % 100=0)∧(Int.tmod y 400=0↔y % 400=0):=by
 refine ⟨?_,?_,?_⟩ <;> rw [← Int.dvd_iff_emod_eq_zero,Int.dvd_iff_tmod_eq_zero]
theorem sleap (y:Int) {K} (h:K (leapY y)):Xq4r y K:=by
 unfold Xq4r Yq4r
 obtain ⟨t1,t2,t3⟩:=tmod_leap y
 have fin:∀ z:Bool,(z=true↔(y % 4=0∧(y % 100≠0∨y % 400=0)))→K z:=fun z hz=>cast (congrArg K (Bool.eq_iff_iff.2 ((leapY_iff y).trans hz.symm))) h
 simp only [beq_iff_eq,bne_iff_ne,ne_eq,t1,t2]
 refine ifC (fun h1=>ifC (fun h2=>fin _ ?_) fun h2=>fin _ ?_) fun h1=>fin _ ?_
 ·simp; omega
 ·rw [beq_iff_eq,t3]; omega
 ·simp; omega
theorem slast (y m:Int) {K} (h:K (if 1≤y∧y≤9999∧1≤m∧m≤12 then dim y m else 0) (decide (1≤y∧y≤9999∧1≤m∧m≤12))):Xq4o y m K:=by
 unfold Xq4o Yq4o
 simp only [decide_eq_true_eq,gt_iff_lt]
 by_cases e:1≤y∧y≤9999∧1≤m∧m≤12
 ·rw [if_pos e,decide_eq_true e] at h
  refine ifF (by omega) (ifF (by omega) (ifF (by omega) (ifF (by omega) ?_)))
  rw [w64_in (by omega) (by omega)]
  refine ifT (by omega) ?_
  rcases month_cases e.2.2.1 e.2.2.2 with rfl | rfl | rfl | rfl | rfl | rfl | rfl | rfl | rfl | rfl | rfl | rfl
  all_goals
   simp only [Int.sub_self,Int.reduceSub,Int.reduceToNat,Nat.reduceMul,List.getElem?_cons_zero,List.getElem?_cons_succ,Eng.asInt,if_true,beq_iff_eq,Int.toNat_zero,Nat.zero_mul,beq_self_eq_true,Int.reduceBEq,Bool.false_eq_true,if_false]
   first
   | exact h
   |(refine sleap _ ?_
     unfold dim at h
     rw [if_pos rfl] at h
     refine ifC (fun hl=>?_) fun hl=>?_
     ·rw [if_pos hl] at h; exact h
     ·rw [if_neg hl] at h; exact h)
 ·rw [if_neg e,decide_eq_false e] at h
  exact ifC (fun _=>h) fun _=>ifC (fun _=>h) fun _=>ifC (fun _=>h) fun _=>ifT (by omega) h
theorem ediv_in (a b:Int) (h0:-9223372036854775808≤a) (h1:a≤9223372036854775807) (hb:1≤b):-9223372036854775808≤a / b∧a / b≤9223372036854775807:=by
 constructor
 ·have:a≤a / b∨0≤a / b:=by
   by_cases hn:0≤a
   ·exact .inr (Int.ediv_nonneg hn (by omega))
   ·refine .inl (Int.le_ediv_of_mul_le (by omega) ?_)
    have:(b - 1) * a≤0:=Int.mul_nonpos_of_nonneg_of_nonpos (by omega) (by omega)
    rw [Int.sub_mul,Int.mul_comm b a] at this
    omega
  omega
 ·have:=Int.ediv_le_self (a:=a) b
  by_cases hn:0≤a
  ·have:=this hn; omega
  ·have:=Int.ediv_neg_of_neg_of_pos (by omega:a < 0) (by omega:0 < b); omega
theorem sdiv (a b:Int) (h0:-9223372036854775808≤a) (h1:a≤9223372036854775807) (hb:1≤b) (hb':b≤9223372036854775807) {K} (h:K (a / b) (a % b) true):Xq4x a b K:=by
 unfold Xq4x Yq4x
 have hm:=Int.emod_nonneg a (by omega:b≠0)
 have hm2:=Int.emod_lt_of_pos a (by omega:0 < b)
 obtain ⟨hq1,hq2⟩:=ediv_in a b h0 h1 hb
 simp only [decide_eq_true_eq,lt]
 refine ifF (by omega) (ifF (by omega) (ifF (by omega) ?_))
 by_cases hn:0≤a
 ·rw [Int.tmod_eq_emod_of_nonneg hn,Int.tdiv_eq_ediv_of_nonneg hn]
  refine ifF (by omega) ?_
  rw [w64_in hq1 hq2]; exact h
 ·by_cases hz:a % b=0
  ·have hd:b ∣ a:=Int.dvd_of_emod_eq_zero hz
   have e1:Int.tmod a b=0:=Int.tmod_eq_zero_of_dvd hd
   have e2:Int.tdiv a b=a / b:=by
    obtain ⟨c,rfl⟩:=hd
    rw [Int.mul_tdiv_cancel_left _ (by omega),Int.mul_ediv_cancel_left _ (by omega)]
   rw [e1,e2]
   refine ifF (by omega) ?_
   rw [w64_in hq1 hq2,← hz]; exact h
  ·have e1:Int.tmod a b=a % b - b:=by
    rw [Int.tmod_eq_emod]
    have:¬ (0≤a∨b ∣ a):=by
     rintro (h | h)
     ·exact hn h
     ·exact hz (Int.emod_eq_zero_of_dvd h)
    rw [if_neg this]
    have:(b.natAbs:Int)=b:=by omega
    omega
   have e2:Int.tdiv a b=a / b+1:=by
    have:=Int.mul_tdiv_add_tmod a b
    rw [e1] at this
    have hdm:=Int.mul_ediv_add_emod a b
    have h2:b * (Int.tdiv a b)=b * (a / b+1):=by rw [Int.mul_add]; omega
    exact Int.eq_of_mul_eq_mul_left (by omega) h2
   have hlt:a / b < 0:=Int.ediv_neg_of_neg_of_pos (by omega) (by omega)
   rw [e1,e2]
   refine ifT (by omega) ?_
   rw [w64_in (n:=a / b+1) (by omega) (by omega),w64_in (by omega) (by omega),w64_in (by omega) (by omega),show a / b+1 - 1=a / b by omega,show a % b - b+b=a % b by omega]
   exact h
theorem sweekday (n:Int) (h0:-9223372036854775808≤n) (h1:n≤9223372036854775807) {K} (h:K (wk n)):Xq4n n K:=by
 unfold Xq4n Yq4n
 have ht:-7 < Int.tmod n 7∧Int.tmod n 7 < 7∧(Int.tmod n 7+4) % 7=(n+4) % 7:=by
  rw [Int.tmod_eq_emod]; split <;> simp <;> omega
 rw [w64_in (by omega) (by omega)]
 refine sdiv _ _ (by omega) (by omega) (by omega) (by omega) ?_
 rw [ht.2.2]; exact h
def okD (y m d:Int):Prop:=1≤y∧y≤9999∧1≤m∧m≤12∧1≤d∧d≤dim y m
instance (y m d:Int):Decidable (okD y m d):=by unfold okD; infer_instance
theorem snum (y m d:Int) (hd0:-9223372036854775808≤d) (hd1:d≤9223372036854775807) {K} (h:K (if okD y m d then num y m d else 0) (decide (okD y m d))):Xq3o y m d K:=by
 unfold Xq3o Yq3o
 refine slast _ _ ?_
 simp only [decide_eq_true_eq,gt_iff_lt,lt]
 by_cases e:1≤y∧y≤9999∧1≤m∧m≤12
 ·rw [decide_eq_true e,if_pos e]
  refine ifF (by simp) ?_
  by_cases e2:1≤d∧d≤dim y m
  ·have ok:okD y m d:=⟨e.1,e.2.1,e.2.2.1,e.2.2.2,e2.1,e2.2⟩
   rw [if_pos ok,decide_eq_true ok] at h
   refine ifF (by omega) (ifF (by omega) ?_)
   have hd:=dim_bd y m
   rw [← numP_eq e.2.2.1 e.2.2.2] at h
   unfold numP sy sm at h
   refine ifC (fun hm=>?_) fun hm=>?_
   ·rw [if_pos hm,if_pos hm] at h
    rw [w64_in (n:=y - 1) (by omega) (by omega)]
    refine sdiv _ _ (by omega) (by omega) (by omega) (by omega) ?_
    have b1:0≤(y - 1) % 400∧(y - 1) % 400≤399:=by omega
    have b2:0≤(y - 1) / 400∧(y - 1) / 400≤25:=by omega
    generalize (y - 1) % 400=r at *
    generalize (y - 1) / 400=q at *
    simp (disch:=omega) only [w64_in,Int.tdiv_eq_ediv_of_nonneg]
    refine cast (congrArg (fun z=>K z true) ?_) h
    omega
   ·rw [if_neg hm,if_neg hm] at h
    refine sdiv _ _ (by omega) (by omega) (by omega) (by omega) ?_
    have b1:0≤y % 400∧y % 400≤399:=by omega
    have b2:0≤y / 400∧y / 400≤25:=by omega
    generalize y % 400=r at *
    generalize y / 400=q at *
    simp (disch:=omega) only [w64_in,Int.tdiv_eq_ediv_of_nonneg]
    refine cast (congrArg (fun z=>K z true) ?_) h
    omega
  ·have ok:¬ okD y m d:=fun h=>e2 h.2.2.2.2
   rw [if_neg ok,decide_eq_false ok] at h
   exact ifC (fun _=>h) fun _=>ifT (by omega) h
 ·have ok:¬ okD y m d:=fun h=>e ⟨h.1,h.2.1,h.2.2.1,h.2.2.2.1⟩
  rw [if_neg ok,decide_eq_false ok] at h
  rw [decide_eq_false e]
  exact ifT rfl h
theorem sday (n:Int) {K} (h:if -719162≤n∧n≤2932896 then K (yearP n) (monP n) (dayP n) true else K 0 0 0 false):Xq4q n K:=by
 unfold Xq4q Yq4q
 simp only [decide_eq_true_eq,gt_iff_lt,lt]
 by_cases e:-719162≤n∧n≤2932896
 ·rw [if_pos e] at h
  refine ifF (by omega) (ifF (by omega) ?_)
  rw [w64_in (n:=n+719468) (by omega) (by omega)]
  refine sdiv _ _ (by omega) (by omega) (by omega) (by omega) ?_
  have b1:0≤(n+719468) / 146097∧(n+719468) / 146097≤25:=by omega
  have b2:0≤(n+719468) % 146097∧(n+719468) % 146097≤146096:=by omega
  have hv:=doy_bd (by omega:-719162≤n) (by omega)
  unfold yearP monP dayP mon doy yrs era ofE at *
  generalize (n+719468) / 146097=q at *
  generalize (n+719468) % 146097=o at *
  have hg:0≤gy o∧gy o≤146096∧gy o=o - o / 1460+o / 36524 - o / 146096:=by unfold gy; omega
  simp (disch:=omega) only [w64_in,Int.tdiv_eq_ediv_of_nonneg]
  rw [← hg.2.2]
  have hY:0≤gy o / 365∧gy o / 365≤400:=by omega
  have hS:st (gy o / 365)=365 * (gy o / 365)+gy o / 365 / 4 - gy o / 365 / 100:=rfl
  rw [hS] at hv h
  generalize o - (365 * (gy o / 365)+gy o / 365 / 4 - gy o / 365 / 100)=D at *
  simp (disch:=omega) only [w64_in,Int.tdiv_eq_ediv_of_nonneg]
  refine ifC (fun hm=>?_) fun hm=>?_
  ·rw [if_pos (by omega),if_pos (by omega)] at h; exact h
  ·rw [if_neg (by omega),if_neg (by omega)] at h; exact h
 ·rw [if_neg e] at h
  exact ifC (fun _=>h) fun _=>ifT (by omega) h
theorem sruleDay (k a b c x y:Int) {K} (h:K (if (1≤y∧y≤9999)∧rightR k a b c x=true then ruleDay k a b c y else 0) (decide ((1≤y∧y≤9999)∧rightR k a b c x=true))):Xq4s (k,a,b,c,x,()) y K:=by
 unfold Xq4s Yq4s
 refine snum _ _ _ (by omega) (by omega) ?_
 simp only [decide_eq_true_eq,gt_iff_lt,ge_iff_le,lt,beq_iff_eq]
 have h1:okD y 1 1↔(1≤y∧y≤9999):=by unfold okD; have:=dim_jan y; omega
 by_cases ey:1≤y∧y≤9999
 ·rw [if_pos (h1.2 ey),decide_eq_true (h1.2 ey)]
  refine ifF (by simp) (sruleRight _ _ _ _ _ ?_)
  by_cases e:rightR k a b c x=true
  ·rw [if_pos ⟨ey,e⟩,decide_eq_true ⟨ey,e⟩] at h
   refine ifF (by simp [e]) ?_
   obtain ⟨hx,hr⟩:=(right_iff k a b c x).1 e
   have hf:=fst_bd ey.1 ey.2
   have hf2:=fst_succ y
   rw [num_first]
   unfold ruleDay at h
   refine ifC (fun k2=>?_) fun k2=>?_
   ·rw [if_pos k2] at h
    rw [w64_in (by omega) (by omega)]; exact h
   ·rw [if_neg k2] at h
    refine ifC (fun k1=>?_) fun k1=>?_
    ·rw [if_pos k1] at h
     refine ifC (fun ha=>?_) fun ha=>sleap _ ?_
     ·rw [if_pos (.inl ha)] at h
      rw [w64_in (n:=fst y - 1) (by omega) (by omega),w64_in (by omega) (by omega)]; exact h
     ·refine ifC (fun hl=>?_) fun hl=>?_
      ·rw [if_pos (.inr (by simpa using hl))] at h
       rw [w64_in (n:=fst y - 1) (by omega) (by omega),w64_in (by omega) (by omega)]; exact h
      ·rw [if_neg (by rintro (h | h); exact ha h; simp [h] at hl)] at h
       rw [w64_in (by omega) (by omega)]; exact h
    ·rw [if_neg k1] at h
     refine snum _ _ _ (by omega) (by omega) (slast _ _ ?_)
     have hok:okD y a 1:=⟨ey.1,ey.2,by omega,by omega,by omega,by have:=dim_bd y a; omega⟩
     have hv:Vld y a 1:=⟨ey.1,ey.2,by omega,by omega,by omega,by have:=dim_bd y a; omega⟩
     have hn:=num_range hv
     rw [if_pos hok,if_pos ⟨ey.1,ey.2,by omega,by omega⟩]
     refine sweekday _ (by omega) (by omega) ?_
     have hw:0≤wk (num y a 1)∧wk (num y a 1) < 7:=by unfold wk; omega
     have hd:=dim_bd y a
     unfold offW at h
     simp only at h
     generalize num y a 1=n at *
     generalize wk n=w at *
     generalize dim y a=D at *
     rw [w64_in (n:=b - 1) (by omega) (by omega),w64_in (n:=7 * (b - 1)) (by omega) (by omega),w64_in (n:=c - w) (by omega) (by omega),w64_in (n:=c - w+7) (by omega) (by omega),Int.tmod_eq_emod_of_nonneg (by omega)]
     rw [w64_in (n:=(c - w+7) % 7+7 * (b - 1)) (by omega) (by omega)]
     refine ifC (fun hk=>?_) fun hk=>?_
     ·rw [if_pos (by omega)] at h
      rw [w64_in (n:=(c - w+7) % 7+7 * (b - 1) - 7) (by omega) (by omega),w64_in (by omega) (by omega)]; exact h
     ·rw [if_neg (by omega)] at h
      rw [w64_in (by omega) (by omega)]; exact h
  ·rw [if_neg (fun h=>e h.2),decide_eq_false (fun h=>e h.2)] at h
   exact ifT (by simpa using e) h
 ·rw [if_neg (fun h=>ey h.1),decide_eq_false (fun h=>ey h.1)] at h
  have:¬ okD y 1 1:=fun h=>ey (h1.1 h)
  rw [decide_eq_false this]
  exact ifT rfl h
def ruleAt (k a b c x y:Int):Int:=ruleDay k a b c y * 86400+x
theorem sruleAt (k a b c x y:Int) {K} (h:K (if (1≤y∧y≤9999)∧rightR k a b c x=true then ruleAt k a b c x y else 0) (decide ((1≤y∧y≤9999)∧rightR k a b c x=true))):Xq4u (k,a,b,c,x,()) y K:=by
 unfold Xq4u Yq4u
 refine sruleDay _ _ _ _ _ _ ?_
 simp only [decide_eq_true_eq,lt]
 by_cases e:(1≤y∧y≤9999)∧rightR k a b c x=true
 ·rw [if_pos e,decide_eq_true e] at h ⊢
  refine ifF (by simp) ?_
  obtain ⟨hx,hr⟩:=(right_iff k a b c x).1 e.2
  have hf:=fst_bd e.1.1 e.1.2
  have hf2:=fst_succ y
  have hb:=ruleDay_bd e.1 e.2
  rw [w64_in (n:=ruleDay k a b c y * 86400) (by omega) (by omega),w64_in (by omega) (by omega)]
  exact h
 ·rw [if_neg e,decide_eq_false e] at h
  rw [decide_eq_false e]
  exact ifT rfl h
theorem sadd (a b:Int) (ha:-9223372036854775808≤a∧a≤9223372036854775807) (hb:-9223372036854775808≤b∧b≤9223372036854775807) {K}
  (h:if -9223372036854775808≤a+b∧a+b≤9223372036854775807 then K (a+b) true else K 0 false):Xq4y a b K:=by
 unfold Xq4y Yq4y
 simp only [lt,bne_iff_ne,ne_eq]
 by_cases e:-9223372036854775808≤a+b∧a+b≤9223372036854775807
 ·rw [if_pos e] at h
  rw [w64_in e.1 e.2]
  exact ifC (fun h1=>ifC (fun h2=>absurd h1 (by simp; omega)) fun _=>h) fun _=>h
 ·rw [if_neg e] at h
  have hw:w64 (a+b)=if a+b < 0 then a+b+18446744073709551616 else a+b - 18446744073709551616:=by
   unfold w64 IntKind.wrap
   simp [IntKind.bits,IntKind.signed]
   split <;> omega
  rw [hw]
  refine ifT ?_ (ifT (by omega) h)
  split <;> simp <;> omega
end Go.Proofs.YtbnpclndiichcaaGreatDoor
end
section
set_option linter.unusedVariables false
set_option linter.unusedSimpArgs false
namespace Go.Proofs.YtbnpclndiichcaaGreatDoor
open Go Go.Proofs.YtbnpclndiichcaaGreatDoor.Eng Go.Proofs.YtbnpclndiichcaaGreatDoor.Pl
set_option maxRecDepth 100000
set_option maxHeartbeats 2000000
theorem kStClock (x:Int) (h0:0≤x) (h1:x < 86400) {K} (h:K (x / 3600) (x / 60 % 60) (x % 60) true):Xq37 x K:=by
 unfold Xq37 Yq37
 simp only [decide_eq_true_eq,beq_iff_eq]
 rw [if_neg (by omega),if_neg (by omega),if_neg (by omega),Int.tdiv_eq_ediv_of_nonneg h0,Int.tdiv_eq_ediv_of_nonneg h0,Int.tmod_eq_emod_of_nonneg h0,
  w64_in (by omega) (by omega),w64_in (by omega) (by omega),Int.tmod_eq_emod_of_nonneg (by omega)]
 exact h
def fillR:List UInt8→List Int→List UInt8
 | [],_=>[]
 | c :: r,ns=>if c=48 then UInt8.ofNat (48+(ns.headD 0 % 10).toNat) :: fillR r (ns.headD 0 / 10 :: ns.tail) else c :: fillR r ns.tail
def fillL (f:List UInt8) (ns:List Int):List UInt8:=(fillR f.reverse ns.reverse).reverse
def IV (ns:List Int):List V:=ns.map fun n=>.c (.int .i64 n)
theorem IV_len (ns:List Int):(IV ns).length=ns.length:=by simp [IV]
theorem asIV {ns:List Int} {i:Nat} (h:i < ns.length) {F:Prop} {K:Int→Prop} (hk:K ns[i]):Eng.asInt .i64 (getC (IV ns) i 0) F K:=by
 have:getC (IV ns) i 0=some (.c (.int .i64 ns[i])):=by simp [getC,IV,V.cells,h]
 rw [this]; simpa [Eng.asInt] using hk
theorem IV_set (ns:List Int) (i:Nat) (h:i < ns.length) (x:Int):List.set (IV ns) i (Eng.setE (List.getD (IV ns) i Eng.V.bad) 0 [.c (.int .i64 x)])=IV (ns.set i x):=by
 have:List.getD (IV ns) i Eng.V.bad = .c (.int .i64 ns[i]):=by simp [IV,List.getD,h]
 rw [this]
 show List.set (IV ns) i (.c (.int .i64 x))=_
 simp [IV,List.map_set]
theorem B8_set (l:List UInt8) (i:Nat) (h:i < l.length) (x:UInt8):List.set (B8 l) i (Eng.setE (List.getD (B8 l) i Eng.V.bad) 0 [.c (.int .u8 (x.toNat:Int))])=B8 (l.set i x):=by
 have:List.getD (B8 l) i Eng.V.bad = .c (.int .u8 (l[i].toNat:Int)):=by simp [B8,List.getD,h]
 rw [this]
 show List.set (B8 l) i (.c (.int .u8 (x.toNat:Int)))=_
 simp [B8,List.map_set]
theorem kFill (f:List UInt8) (ns:List Int) (hf:f.length≤1000) (hn:ns.length≤1000) (h0:∀ n∈ns,0≤n∧n≤9223372036854775807) (hc:(f.filter (·≠48)).length < ns.length) {K} (h:K (S (fillL f ns))):Xq3s (S f) (IV ns) true false K:=by
 unfold Xq3s Yq3s
 rw [bytesV_S,B8_len,IV_len]
 have w1:w64 ((ns.length:Int) - 1)=((ns.length:Nat):Int) - 1:=w64_in (by omega) (by omega)
 have w2:w64 ((f.length:Int) - 1)=((f.length:Nat):Int) - 1:=w64_in (by omega) (by omega)
 rw [w1,w2]
 refine lp_ind (fun x=>(x.1.2.2.2.2.1+1).toNat) (fun x=>∃ (p:Nat) (k:Int) (ms:List Int) (bs:List UInt8),p≤f.length∧bs.length=f.length∧bs.take p=f.take p∧ms.length=ns.length∧k < ms.length ∧
  (∀ n∈ms,0≤n∧n≤9223372036854775807)∧(((f.take p).filter (·≠48)).length:Int)≤k∧(fillR (f.take p).reverse (ms.take (k+1).toNat).reverse).reverse++bs.drop p=fillL f ns ∧
  x=(((),ByteArray.mk #[],(),k,(p:Int) - 1,()),(IV ms,true,false),B8 bs,())) ?_
  ⟨f.length,(ns.length:Int) - 1,ns,f,Nat.le_refl _,rfl,rfl,rfl,by omega,h0,by rw [List.take_length]; omega,by rw [List.take_length,show ((ns.length:Int) - 1+1).toNat=ns.length by omega,List.take_length]; simp [fillL],rfl⟩
 rintro x ⟨p,k,ms,bs,hp,hb,hbt,hm,hk,hz,hcnt,hres,rfl⟩ kk hkk
 unfold Lq3s_0
 simp only [decide_eq_true_eq,B8_len,IV_len]
 cases p with
 | zero =>
  rw [if_neg (by omega),if_pos (B8_all _),B8_pack]
  have:bs=fillL f ns:=by simpa [fillR] using hres
  rw [this]; exact h
 | succ p =>
  have hpf:p < f.length:=by omega
  have e1:((p+1:Nat):Int) - 1=(p:Int):=by omega
  have hbp:bs[p]'(by omega)=f[p]:=by
   have h1:=congrArg (fun l=>l[p]?) hbt
   simpa [List.getElem?_take,hpf,show p < bs.length by omega] using h1
  rw [e1,if_pos (by omega),if_pos (by omega)]
  simp only [Int.toNat_natCast]
  refine asB8 (by omega) ?_
  rw [hbp]
  have hrev:(f.take (p+1)).reverse=f[p] :: (f.take p).reverse:=by rw [List.take_succ_eq_append_getElem hpf]; simp
  rw [hrev,fillR] at hres
  have hbd:bs.take p=f.take p:=by
   have:=congrArg (List.take p) hbt
   simpa [List.take_take,Nat.min_eq_left (Nat.le_succ p)] using this
  have w3:w64 ((p:Int) - 1)=(p:Int) - 1:=w64_in (by omega) (by omega)
  rw [List.take_succ_eq_append_getElem hpf,List.filter_append] at hcnt
  by_cases hd:f[p]=48
  ·have hne:¬ (((f[p].toNat:Int) != 48)=true):=by rw [hd]; decide
   rw [if_pos hd] at hres
   have hk0:0≤k:=by omega
   have hkm:k.toNat < ms.length:=by omega
   rw [if_neg hne,if_pos (by omega)]
   refine asB8 (by omega) ?_
   rw [hbp,if_pos (by omega)]
   refine asIV hkm ?_
   simp only [lt]
   rw [if_pos (by omega),if_pos (by omega),if_pos (by omega)]
   refine asIV hkm ?_
   rw [if_pos (by omega),if_pos trivial,if_pos hkm,w3]
   obtain ⟨z0,z1⟩:=hz _ (List.getElem_mem hkm)
   have t1:Int.tmod ms[k.toNat] 10=ms[k.toNat] % 10:=Int.tmod_eq_emod_of_nonneg z0
   have t2:w64 (Int.tdiv ms[k.toNat] 10)=ms[k.toNat] / 10:=by rw [Int.tdiv_eq_ediv_of_nonneg z0,w64_in (by omega) (by omega)]
   have t3:wu8 ((f[p].toNat:Int)+wu8 (Int.tmod ms[k.toNat] 10))=((UInt8.ofNat (48+(ms[k.toNat] % 10).toNat)).toNat:Int):=by
    rw [t1,hd,wu8_in (n:=ms[k.toNat] % 10) (by omega) (by omega),wu8_in (by simp; omega) (by simp; omega)]
    simp; omega
   rw [t2,t3,IV_set _ _ hkm,B8_set _ _ (by omega)]
   have htk:(ms.take (k+1).toNat).reverse=ms[k.toNat] :: (ms.take k.toNat).reverse:=by
    rw [show (k+1).toNat=k.toNat+1 by omega,List.take_succ_eq_append_getElem hkm]; simp
   rw [htk] at hres
   refine hkk _ ⟨p,k,ms.set k.toNat (ms[k.toNat] / 10),bs.set p (UInt8.ofNat (48+(ms[k.toNat] % 10).toNat)),by omega,by simpa using hb,?_,by simpa using hm,by simpa using hk,fun n hn=>?_,by rw [hd] at hcnt; simpa using hcnt,?_,by rfl⟩ (by dsimp only; omega)
   ·rw [List.take_set_of_le (Nat.le_refl p)]; exact hbd
   ·rcases List.mem_or_eq_of_mem_set hn with hn | rfl
    ·exact hz n hn
    ·omega
   ·have e2:((ms.set k.toNat (ms[k.toNat] / 10)).take (k+1).toNat).reverse=ms[k.toNat] / 10 :: (ms.take k.toNat).reverse:=by
     rw [show (k+1).toNat=k.toNat+1 by omega,List.take_succ_eq_append_getElem (by simpa using hkm),List.take_set_of_le (Nat.le_refl _)]; simp
    have e3:(bs.set p (UInt8.ofNat (48+(ms[k.toNat] % 10).toNat))).drop p=UInt8.ofNat (48+(ms[k.toNat] % 10).toNat) :: bs.drop (p+1):=by
     rw [List.drop_eq_getElem_cons (by simp; omega),List.getElem_set_self,List.drop_set_of_lt (by omega)]
    rw [e2,e3,← hres]
    simp
  ·have hne:((f[p].toNat:Int) != 48)=true:=by
    rw [bne_iff_ne]; intro e
    exact hd (u8_eq (by have:(48:UInt8).toNat=48:=rfl; omega))
   rw [if_neg hd] at hres
   have hcnt':(((f.take p).filter (·≠48)).length:Int)+1≤k:=by
    have:([f[p]].filter (·≠48)).length=1:=by simp [hd]
    rw [List.length_append,this] at hcnt; omega
   rw [if_pos hne,w3,w64_in (by omega) (by omega)]
   refine hkk _ ⟨p,k - 1,ms,bs,by omega,hb,hbd,hm,by omega,hz,by omega,?_,by rfl⟩ (by dsimp only; omega)
   have hkm:k.toNat < ms.length:=by omega
   have htk:(ms.take (k+1).toNat).reverse=ms[k.toNat] :: (ms.take k.toNat).reverse:=by
    rw [show (k+1).toNat=k.toNat+1 by omega,List.take_succ_eq_append_getElem hkm]; simp
   rw [htk] at hres
   rw [show (k - 1+1).toNat=k.toNat by omega,← hres,List.drop_eq_getElem_cons (show p < bs.length by omega),hbp]
   simp
def dayB (n:Int):List UInt8:=fillL [48,48,48,48,45,48,48,45,48,48] [yearP n,monP n,dayP n]
theorem sStDay (n:Int) {K} (h:if -719162≤n∧n≤2932896 then K (S (dayB n)) true else K (S []) false):Xq4d n K:=by
 unfold Xq4d Yq4d
 refine sday n ?_
 by_cases hn:-719162≤n∧n≤2932896
 ·rw [if_pos hn] at h ⊢
  obtain ⟨⟨v1,v2,v3,v4,v5,v6⟩,_⟩:=num_date hn.1 hn.2
  have:=dim_bd (yearP n) (monP n)
  rw [if_neg (by simp)]
  exact kFill [48,48,48,48,45,48,48,45,48,48] [yearP n,monP n,dayP n] (by decide) (by simp) (fun m hm=>by
   simp only [List.mem_cons,List.not_mem_nil,or_false] at hm
   rcases hm with rfl | rfl | rfl <;> omega) (show 2 < 3 by decide) h
 ·rw [if_neg hn] at h ⊢
  rw [if_pos (by simp)]; exact h
end Go.Proofs.YtbnpclndiichcaaGreatDoor
end
section
set_option linter.unusedVariables false
set_option linter.unusedSimpArgs false
namespace Go.Proofs.YtbnpclndiichcaaGreatDoor
open Go Go.Proofs.YtbnpclndiichcaaGreatDoor.Eng Go.Proofs.YtbnpclndiichcaaGreatDoor.Pl
set_option maxRecDepth 100000
set_option maxHeartbeats 2000000
def RV (l:List Rec):List V:=l.map eRec
def TV (l:List Ty):List V:=l.map eTy
theorem RV_len (l:List Rec):(RV l).length=l.length:=by simp [RV]
theorem TV_len (l:List Ty):(TV l).length=l.length:=by simp [TV]
theorem asR1 {l:List Rec} {i:Nat} (h:i < l.length) {F:Prop} {K:Int→Prop} (hk:K (l[i]).1):Eng.asInt .i64 (getC (RV l) i 0) F K:=by
 have:getC (RV l) i 0=some (.c (.int .i64 (l[i]).1)):=by simp [getC,RV,eRec,V.cells,h]
 rw [this]; simpa [Eng.asInt] using hk
theorem asR2 {l:List Rec} {i:Nat} (h:i < l.length) {F:Prop} {K:Int→Prop} (hk:K (l[i]).2):Eng.asInt .i64 (getC (RV l) i 1) F K:=by
 have:getC (RV l) i 1=some (.c (.int .i64 (l[i]).2)):=by simp [getC,RV,eRec,V.cells,h]
 rw [this]; simpa [Eng.asInt] using hk
theorem asT1 {l:List Ty} {i:Nat} (h:i < l.length) {F:Prop} {K:Int→Prop} (hk:K (l[i]).1):Eng.asInt .i64 (getC (TV l) i 0) F K:=by
 have:getC (TV l) i 0=some (.c (.int .i64 (l[i]).1)):=by simp [getC,TV,eTy,V.cells,h]
 rw [this]; simpa [Eng.asInt] using hk
theorem asT2 {l:List Ty} {i:Nat} (h:i < l.length) {F:Prop} {K:Bool→Prop} (hk:K (l[i]).2.1):Eng.asBool (getC (TV l) i 1) F K:=by
 have:getC (TV l) i 1=some (.c (.bool (l[i]).2.1)):=by simp [getC,TV,eTy,V.cells,h]
 rw [this]; simpa [Eng.asBool] using hk
theorem asT3 {l:List Ty} {i:Nat} (h:i < l.length) {F:Prop} {K:ByteArray→Prop} (hk:K (S (l[i]).2.2)):Eng.asStr (getC (TV l) i 2) F K:=by
 have:getC (TV l) i 2=some (.c (.string (S (l[i]).2.2))):=by simp [getC,TV,eTy,V.cells,h]
 rw [this]; simpa [Eng.asStr] using hk
theorem w64_hi {n:Int} (h0:9223372036854775807 < n) (h1:n≤18446744073709551615):w64 n=n - 18446744073709551616:=by
 simp only [w64,IntKind.wrap,IntKind.bits,IntKind.signed]
 try simp
 try omega
theorem w64_lo {n:Int} (h0:-18446744073709551616≤n) (h1:n < -9223372036854775808):w64 n=n+18446744073709551616:=by
 simp only [w64,IntKind.wrap,IntKind.bits,IntKind.signed]
 try simp
 try omega
def i64r (n:Int):Prop:=-9223372036854775808≤n∧n≤9223372036854775807
instance (n:Int):Decidable (i64r n):=inferInstanceAs (Decidable (_∧_))
def recI (l:List Rec):Prop:=∀ c∈l,i64r c.1∧i64r c.2
theorem ssub (a b:Int) (ha:i64r a) (hb:i64r b) {K:Int→Bool→Prop} (h1:i64r (a - b)→K (a - b) true) (h2:¬ i64r (a - b)→K 0 false):Xq4w a b K:=by
 unfold Xq4w Yq4w
 unfold i64r at *
 simp only [lt]
 by_cases e:-9223372036854775808≤a - b∧a - b≤9223372036854775807
 ·rw [w64_in e.1 e.2]
  have:(!decide (a - b < a) == decide (b > 0))=false:=by
   by_cases hb0:b > 0
   ·simp [hb0]; omega
   ·simp [hb0]; omega
  rw [this]
  exact h1 e
 ·by_cases hb0:b > 0
  ·rw [w64_lo (by omega) (by omega)]
   have:(!decide (a - b+18446744073709551616 < a) == decide (b > 0))=true:=by simp [hb0]; omega
   rw [this,if_pos rfl,if_pos (by simp; omega)]
   exact h2 e
  ·rw [w64_hi (by omega) (by omega)]
   have:(!decide (a - b - 18446744073709551616 < a) == decide (b > 0))=true:=by simp [hb0]; omega
   rw [this,if_pos rfl,if_pos (by simp; omega)]
   exact h2 e
theorem recOk_cons (k:Nat) (b c:Rec) (r:List Rec):recOk k b (c :: r)=true↔(k≤200∧0≤c.1∧((c.2 - b.2=0∧r=[])∨c.2 - b.2=1∨c.2 - b.2=-1)∧(k=0∨((c.2 - b.2=0∧r=[])∧c.1 - b.1≥0)∨(¬ (c.2 - b.2=0∧r=[])∧c.1 - b.1≥2419199)))∧recOk (k+1) c r=true:=by
 rw [recOk]
 simp only [Bool.and_eq_true,Bool.or_eq_true,decide_eq_true_eq,List.isEmpty_iff]
 by_cases he:c.2 - b.2=0∧r=[]
 ·simp only [he,and_self,if_true,true_or,true_and,not_true,false_and,or_false]
  constructor
  ·rintro ⟨⟨⟨⟨h1,h2⟩,_⟩,h4⟩,h5⟩; exact ⟨⟨h1,h2,h4⟩,h5⟩
  ·rintro ⟨⟨h1,h2,h4⟩,h5⟩; exact ⟨⟨⟨⟨h1,h2⟩,trivial⟩,h4⟩,h5⟩
 ·simp only [he,false_or,if_false,false_and,not_false_iff,true_and]
  constructor
  ·rintro ⟨⟨⟨⟨h1,h2⟩,h3⟩,h4⟩,h5⟩; exact ⟨⟨h1,h2,h3,h4⟩,h5⟩
  ·rintro ⟨⟨h1,h2,h3,h4⟩,h5⟩; exact ⟨⟨⟨⟨h1,h2⟩,h3⟩,h4⟩,h5⟩
theorem sRecRight (l:List Rec) (hi:recI l) (hlen:l.length≤100000) {K:Bool→Prop} (h:K (recRight l)):Xq2r (RV l) K:=by
 unfold Xq2r Yq2r Xq2x Yq2x
 rw [RV_len]
 refine lp_ind (fun x=>(l.length:Nat) - x.1.2.2.2.2.2.2.1.toNat) (fun x=>∃ (j:Nat) (b:Rec),j≤l.length∧x=((RV l,(0:Int),(0:Int),(),RV l,(l.length:Int),(j:Int),()),(b.1,b.2,()),())∧recOk j b (l.drop j)=recRight l∧(0 < j→0≤b.1)∧i64r b.1∧i64r b.2) ?_ ⟨0,(-2419199,0),by omega,rfl,rfl,by omega,by unfold i64r; decide,by unfold i64r; decide⟩
 rintro x ⟨j,b,hj,rfl,hok,hb0,hb1,hb2⟩ k hk
 unfold Lq2x_0
 simp only [decide_eq_true_eq,RV_len]
 by_cases e:j=l.length
 ·rw [if_neg (by omega)]
  have:recRight l=true:=by rw [← hok,e,List.drop_length]; rfl
  rw [this] at h
  exact h
 ·have hj':j < l.length:=by omega
  obtain ⟨hc1,hc2⟩:=hi l[j] (List.getElem_mem hj')
  rw [Int.toNat_natCast,if_pos (by omega),if_pos (by omega)]
  refine asR1 hj' (asR2 hj' ?_)
  have hd:l.drop j=l[j] :: l.drop (j+1):=List.drop_eq_getElem_cons hj'
  rw [hd] at hok
  have hre:l.drop (j+1)=[]↔j+1=l.length:=by rw [List.drop_eq_nil_iff]; omega
  have hcons:=recOk_cons j b l[j] (l.drop (j+1))
  rw [hre,hok] at hcons
  generalize l[j]=c at *
  have e1:w64 ((j:Int)+1)=((j+1:Nat):Int):=by rw [w64_in (by omega) (by omega)]; omega
  have e2:w64 ((l.length:Int) - 1)=(l.length:Int) - 1:=w64_in (by omega) (by omega)
  have bad:¬ (j≤200∧0≤c.1∧((c.2 - b.2=0∧j+1=l.length)∨c.2 - b.2=1∨c.2 - b.2=-1)∧(j=0∨((c.2 - b.2=0∧j+1=l.length)∧c.1 - b.1≥0)∨(¬ (c.2 - b.2=0∧j+1=l.length)∧c.1 - b.1≥2419199)))→K false:=fun hn=>by
   have:recRight l=false:=by
    cases hr:recRight l
    ·rfl
    ·exact absurd (hcons.1 hr).1 hn
   rw [this] at h; exact h
  have good:(j≤200∧0≤c.1∧((c.2 - b.2=0∧j+1=l.length)∨c.2 - b.2=1∨c.2 - b.2=-1)∧(j=0∨((c.2 - b.2=0∧j+1=l.length)∧c.1 - b.1≥0)∨(¬ (c.2 - b.2=0∧j+1=l.length)∧c.1 - b.1≥2419199))) →
    k ((RV l,(0:Int),(0:Int),(),RV l,(l.length:Int),((j+1:Nat):Int),()),(c.1,c.2,()),()):=fun hg=>by
   refine hk _ ⟨j+1,c,by omega,rfl,?_,fun _=>hg.2.1,hc1,hc2⟩ ?_
   ·rw [Bool.eq_iff_iff]
    exact ⟨fun hr=>hcons.2 ⟨hg,hr⟩,fun hr=>(hcons.1 hr).2⟩
   ·show l.length - ((j+1:Nat):Int).toNat < l.length - ((j:Nat):Int).toNat
    omega
  clear hcons hok hk h hd hre
  rw [e1,e2]
  have ew:0 < j→0≤c.1→w64 (c.1 - b.1)=c.1 - b.1:=fun h1 h2=>by
   have:=hb0 h1
   unfold i64r at *
   exact w64_in (by omega) (by omega)
  refine ssub c.2 b.2 hc2 hb2 (fun hf=>?_) fun hf=>?_
  ·generalize c.2 - b.2=s at *
   simp only [if_true,beq_iff_eq,Bool.not_eq_true',beq_eq_false_iff_ne,ne_eq,bne_iff_ne,not_true,if_false,Bool.not_true,Bool.false_eq_true]
   repeat' split
   all_goals first
    |(refine bad ?_; omega)
    |(refine good ?_; omega)
    |(refine bad ?_; rw [ew (by omega) (by omega)] at *; omega)
    |(refine good ?_; rw [ew (by omega) (by omega)] at *; omega)
  ·simp only [if_true,if_false,Bool.not_false,Bool.false_eq_true]
   unfold i64r at hf
   repeat' split
   all_goals (refine bad ?_; omega)
end Go.Proofs.YtbnpclndiichcaaGreatDoor
end
section
set_option linter.unusedVariables false
set_option linter.unusedSimpArgs false
namespace Go.Proofs.YtbnpclndiichcaaGreatDoor
open Go Go.Proofs.YtbnpclndiichcaaGreatDoor.Eng Go.Proofs.YtbnpclndiichcaaGreatDoor.Pl
abbrev tupRu (r:Ru):Int×Int×Int×Int×Int×Unit:=(r.k,r.a,r.b,r.c,r.x,())
abbrev tupFt (f:Ft):Int×Bool×ByteArray×Int×Bool×ByteArray×Bool×Int×Int×Int×Int×Int×Int×Int×Int×Int×Int×Unit :=
 (f.so,f.sd,S f.sa,f.wo,f.wd,S f.wa,f.has,f.fr.k,f.fr.a,f.fr.b,f.fr.c,f.fr.x,f.to.k,f.to.a,f.to.b,f.to.c,f.to.x,())
theorem skind (o:Int) (d:Bool) (l:List UInt8) (w:Bool) {K} (h:K (kindR o d l w)):Xq4c (o,d,S l,()) w K:=by
 unfold Xq4c Yq4c
 refine sabbr l ?_
 unfold kindR at h
 simp only [ge_iff_le,decide_eq_true_eq,beq_iff_eq]
 by_cases e1:abbrL l=true
 ·refine ifT e1 ?_
  by_cases e2:d=w
  ·refine ifT e2 ?_
   simp only [e1,e2,beq_self_eq_true,Bool.true_and] at h
   refine ifC (fun e3=>cast (congrArg K ?_) h) fun e3=>cast (congrArg K ?_) h
   ·simp [e3]
   ·simp [e3]
  ·exact ifF e2 (cast (congrArg K (by simp [e2])) h)
 ·exact ifF e1 (cast (congrArg K (by simp [e1])) h)
theorem sfootRight (f:Ft) {K} (h:K f.ok):Xq43 (tupFt f) K:=by
 unfold Xq43 Yq43
 refine skind _ _ _ _ ?_
 unfold Ft.ok at h
 by_cases e1:kindR f.so f.sd f.sa false=true
 ·refine ifF (by simp [e1]) ?_
  rw [e1,Bool.true_and] at h
  refine ifC (fun e2=>?_) fun e2=>?_
  ·rw [if_pos e2] at h
   refine skind _ _ _ _ ?_
   by_cases e3:kindR f.wo f.wd f.wa true=true
   ·refine ifT e3 (sruleRight _ _ _ _ _ ?_)
    rw [e3,Bool.true_and] at h
    by_cases e4:f.fr.ok=true
    ·refine ifT e4 (sruleRight _ _ _ _ _ ?_)
     rw [e4,Bool.true_and] at h
     exact h
    ·exact ifF e4 (cast (congrArg K (by simp [e4])) h)
   ·exact ifF e3 (cast (congrArg K (by simp [e3])) h)
  ·rw [if_neg e2] at h
   have key:∀ z:Bool,(z=true↔f.bare)→K z:=fun z hz=>cast (congrArg K (Bool.eq_iff_iff.2 (decide_eq_true_iff.trans hz.symm))) h
   have e2':f.has=false:=by simpa using e2
   simp only [lt]
   refine key _ ?_
   unfold Ft.bare
   simp [e2',S_toList]
   constructor <;> intro hh <;> simp [hh]
 ·exact ifT (by simpa using e1) (cast (congrArg K (by simp [e1])) h)
theorem splain (n:Int) {K} (h:K (decide ((97≤n∧n≤122)∨(65≤n∧n≤90)))):Xq3p n K:=by
 unfold Xq3p Yq3p
 simp only [decide_eq_true_eq,ge_iff_le]
 repeat' (first | refine ifT (by omega) ?_ | refine ifF (by omega) ?_ | refine ifC (fun _=>?_) (fun _=>?_))
 all_goals (refine cast (congrArg K ?_) h; apply Bool.eq_iff_iff.2; simp only [decide_eq_true_eq,Bool.false_eq_true,true_iff,iff_true,iff_false]; omega)
theorem letQ (c:UInt8):(!decide ((97≤(c.toNat:Int)∧(c.toNat:Int)≤122)∨(65≤(c.toNat:Int)∧(c.toNat:Int)≤90))) = !letC c:=by
 unfold letC; congr 1; apply Bool.eq_iff_iff.2; simp; omega
theorem letH (c:UInt8) (hc:128≤c.toNat):(!letC c)=true:=by
 unfold letC; simp; omega
theorem sname (l:List UInt8) (hl:l.length≤140737488351232) {a1 a2 a3 a4 a5 a6 a7 a8 a9 a10 a11 a12 a13 a14 a15 a16 a17} {K} (h:K (S (nameP l).1) (nameP l).2.1 (S (nameP l).2.2) a1 a2 a3 a4 a5 a6 a7 a8 a9 a10 a11 a12 a13 a14 a15 a16 a17):Xq12 (S l) a1 a2 a3 a4 a5 a6 a7 a8 a9 a10 a11 a12 a13 a14 a15 a16 a17 K:=by
 unfold Xq12 Yq12
 refine sCutPrefix _ _ ?_
 unfold nameP at h
 unfold cutP
 by_cases e:l.head? = some 60
 ·rw [if_pos e] at h ⊢
  refine ifT rfl (sCut _ _ (by rw [List.length_tail]; omega) ?_)
  generalize splitL 62 l.tail=p at *
  obtain ⟨p1,p2,p3⟩:=p
  simp only at h ⊢
  cases p3
  ·simp only [Bool.false_and] at h
   exact ifF (by simp) h
  ·simp only [Bool.true_and] at h
   exact ifT rfl (sabbr _ h)
 ·rw [if_neg e] at h ⊢
  refine ifF (by simp) ?_
  unfold Xq08 Yq08 Xq09
  have sn:∀ (n:Int) {K:Bool→Prop},K (!decide ((97≤n∧n≤122)∨(65≤n∧n≤90)))→Xq0g n K:=fun n K h=>by
   unfold Xq0g Yq0g; exact splain n h
  refine sIndexFunc (fun c=>!letC c) (fun c K hc h=>sn _ (cast (congrArg K (letQ c).symm) h)) (fun n K hn h=>sn _ (cast (congrArg K ?_) h)) letH l ?_
  ·symm; simp; omega
  ·have hn:=nl_le (fun c=>!letC c) l
   generalize nl (fun c=>!letC c) l=k at *
   simp only [S_size,S_extract,decide_eq_true_eq,List.drop_zero,Nat.sub_zero,take_all,Int.toNat_natCast]
   by_cases e2:k < l.length
   ·rw [if_pos e2]
    simp only [Int.toNat_natCast,take_all,List.drop_zero,Nat.sub_zero]
    exact ifF (by omega) (ifT (by omega) (ifT (by omega) (ifT (by omega) (ifT (by omega) (sabbr _ h)))))
   ·rw [if_neg e2]
    have:k=l.length:=by omega
    subst this
    refine ifT (by omega) (ifT (by omega) (ifT (by omega) (ifT (by omega) (sabbr _ ?_))))
    exact h
theorem name_len (l:List UInt8):(nameP l).2.2.length≤l.length∧(nameP l).1.length≤l.length:=by
 unfold nameP splitL
 repeat' split
 all_goals simp
 all_goals omega
theorem time_bd (l:List UInt8):-604799≤(timeL l).1∧(timeL l).1≤604799∧(timeL l).2.1.length≤l.length:=by
 obtain ⟨j,_,e,_,h1,h2,_⟩:=time_drop l
 rw [e,List.length_drop]; exact ⟨h1,h2,by omega⟩
theorem susual (l:List UInt8) (hl:l.length≤140737488351232) {a1 a2 a3 a4 a5 a6 a7 a8 a9 a10 a11 a12 a13 a14 a15 a16 a17} {K} (h:K (usualP l).ok (S (usualP l).rest) (usualP l).o false (S (usualP l).a) a4 a5 a6 a7 a8 a9 a10 a11 a12 a13 a14 a15 a16 a17):Xq0o (S l) a1 a2 a3 a4 a5 a6 a7 a8 a9 a10 a11 a12 a13 a14 a15 a16 a17 K:=by
 unfold Xq0o Yq0o
 have hn:=name_len l
 refine sname l hl (stime _ (by omega) ?_)
 have ht:=time_bd (nameP l).2.2
 rw [w64_in (by omega) (by omega),Int.zero_sub]
 unfold usualP at h
 simp only at h
 by_cases e:(nameP l).2.1=true
 ·rw [e,Bool.true_and] at h
  exact ifT e h
 ·rw [Bool.eq_false_iff.2 e,Bool.false_and] at h
  exact ifF e h
theorem ssummer (l:List UInt8) (hl:l.length≤140737488351232) {a1 a2 a3 a4 a5 a6 a7 a8 a9 a10 a11 a12 a13 a14 a15 a16 a17} (ha:-604799≤a1∧a1≤604799) {K} (h:K (summerP a1 l).ok (S (summerP a1 l).rest) a1 a2 a3 (summerP a1 l).o true (S (summerP a1 l).a) true a8 a9 a10 a11 a12 a13 a14 a15 a16 a17):Xq0e (S l) a1 a2 a3 a4 a5 a6 a7 a8 a9 a10 a11 a12 a13 a14 a15 a16 a17 K:=by
 unfold Xq0e Yq0e
 have hn:=name_len l
 refine sname l hl (stime _ (by omega) ?_)
 have ht:=time_bd (nameP l).2.2
 rw [w64_in (n:=0 - _) (by omega) (by omega),Int.zero_sub,w64_in (by omega) (by omega)]
 unfold summerP at h
 by_cases e:(timeL (nameP l).2.2).2.2=true
 ·rw [if_pos e] at h
  exact ifT e h
 ·rw [if_neg e] at h
  exact ifF e h
theorem cut_len (c:UInt8) (l:List UInt8):(cutP c l).1.length≤l.length:=by
 unfold cutP; split
 ·rw [List.length_tail]; omega
 ·exact Nat.le_refl _
theorem srule (l:List UInt8) (hl:l.length≤140737488351232) {a1 a2 a3 a4 a5 a6 a7 a8 a9 a10 a11 a12 a13 a14 a15 a16 a17} {K} (h:K (ruleP l).ok (S (ruleP l).rest) a1 a2 a3 a4 a5 a6 a7 (ruleP l).r.k (ruleP l).r.a (ruleP l).r.b (ruleP l).r.c (ruleP l).r.x a13 a14 a15 a16 a17):Xq1j (S l) a1 a2 a3 a4 a5 a6 a7 a8 a9 a10 a11 a12 a13 a14 a15 a16 a17 K:=by
 unfold Xq1j Yq1j
 have hc:=cut_len 44 l
 refine sCutPrefix _ _ (sruleParse _ (by omega) ?_)
 unfold ruleP at h
 simp only at h
 by_cases e:(parseL (cutP 44 l).1).2.2.2.2.2.2=true
 ·rw [e,Bool.true_and] at h
  exact ifT e h
 ·rw [Bool.eq_false_iff.2 e,Bool.false_and] at h
  exact ifF e h
theorem srule1 (l:List UInt8) (hl:l.length≤140737488351232) {a1 a2 a3 a4 a5 a6 a7 a8 a9 a10 a11 a12 a13 a14 a15 a16 a17} {K} (h:K (ruleP l).ok (S (ruleP l).rest) a1 a2 a3 a4 a5 a6 a7 a8 a9 a10 a11 a12 (ruleP l).r.k (ruleP l).r.a (ruleP l).r.b (ruleP l).r.c (ruleP l).r.x):Xq0f (S l) a1 a2 a3 a4 a5 a6 a7 a8 a9 a10 a11 a12 a13 a14 a15 a16 a17 K:=by
 unfold Xq0f Yq0f
 have hc:=cut_len 44 l
 refine sCutPrefix _ _ (sruleParse _ (by omega) ?_)
 unfold ruleP at h
 simp only at h
 by_cases e:(parseL (cutP 44 l).1).2.2.2.2.2.2=true
 ·rw [e,Bool.true_and] at h
  exact ifT e h
 ·rw [Bool.eq_false_iff.2 e,Bool.false_and] at h
  exact ifF e h
theorem rule_len (l:List UInt8):(ruleP l).rest.length≤l.length:=by
 have hc:=cut_len 44 l
 unfold ruleP
 simp only
 cases e:(parseL (cutP 44 l).1).2.2.2.2.2.2
 ·rw [parse_bad _ e]; exact hc
 ·obtain ⟨_,j,_,h1,h2⟩:=parse_good _ e
  rw [h2,List.length_drop]; omega
theorem usual_len (l:List UInt8):(usualP l).rest.length≤l.length∧-604799≤(usualP l).o∧(usualP l).o≤604799:=by
 have hn:=name_len l
 have ht:=time_bd (nameP l).2.2
 unfold usualP
 simp only
 omega
theorem summer_len (so:Int) (l:List UInt8):(summerP so l).rest.length≤l.length:=by
 have hn:=name_len l
 have ht:=time_bd (nameP l).2.2
 unfold summerP
 split <;> simp only <;> omega
theorem sfootParse (l:List UInt8) (hl:l.length≤140737488351232) {K} (h:K (tupFt (Ft.parse l).1) (Ft.parse l).2):Xq42 (S l) K:=by
 unfold Xq42 Yq42
 have hu:=usual_len l
 have hs:=summer_len (usualP l).o (usualP l).rest
 have hr:=rule_len (summerP (usualP l).o (usualP l).rest).rest
 refine susual l hl ?_
 unfold Ft.parse at h
 by_cases e1:(usualP l).ok=true
 ·rw [if_pos e1] at h
  refine ifF (by simp [e1]) ?_
  simp only [S_toList]
  by_cases e2:(usualP l).rest=[]
  ·rw [if_pos e2] at h
   refine ifT (by simp [e2]) (ifF (by simp [e2]) (sfootRight ⟨(usualP l).o,false,(usualP l).a,0,false,[],false,.z,.z⟩ ?_))
   unfold Ft.chk at h
   refine ifC (fun e3=>?_) fun e3=>?_
   ·rw [if_neg (by simpa using e3)] at h; exact h
   ·rw [if_pos (by simpa using e3)] at h; exact h
  ·rw [if_neg e2] at h
   refine ifF (by simp [e2]) (ssummer _ (by omega) (by omega) ?_)
   by_cases e3:(summerP (usualP l).o (usualP l).rest).ok=true
   ·rw [if_pos e3] at h
    refine ifF (by simp [e3]) ?_
    unfold Xq1a Yq1a
    refine srule _ (by omega) ?_
    by_cases e4:(ruleP (summerP (usualP l).o (usualP l).rest).rest).ok=true
    ·rw [if_pos e4] at h
     refine ifF (by simp [e4]) ?_
     unfold Xq25 Yq25
     refine srule1 _ (by omega) ?_
     by_cases e5:(ruleP (ruleP (summerP (usualP l).o (usualP l).rest).rest).rest).ok=true
     ·rw [if_pos e5] at h
      refine ifF (by simp [e5]) ?_
      simp only [S_toList]
      by_cases e6:(ruleP (ruleP (summerP (usualP l).o (usualP l).rest).rest).rest).rest=[]
      ·rw [if_pos e6] at h
       refine ifF (by simp [e6]) (sfootRight ⟨(usualP l).o,false,(usualP l).a,(summerP (usualP l).o (usualP l).rest).o,true,(summerP (usualP l).o (usualP l).rest).a,true,(ruleP (summerP (usualP l).o (usualP l).rest).rest).r,(ruleP (ruleP (summerP (usualP l).o (usualP l).rest).rest).rest).r⟩ ?_)
       unfold Ft.chk at h
       refine ifC (fun e3=>?_) fun e3=>?_
       ·rw [if_neg (by simpa using e3)] at h; exact h
       ·rw [if_pos (by simpa using e3)] at h; exact h
      ·rw [if_neg e6] at h
       exact ifT (by simp [e6]) h
     ·rw [if_neg e5] at h
      exact ifT (by simpa using e5) h
    ·rw [if_neg e4] at h
     exact ifT (by simpa using e4) h
   ·rw [if_neg e3] at h
    exact ifT (by simpa using e3) h
 ·rw [if_neg e1] at h
  exact ifT (by simpa using e1) h
end Go.Proofs.YtbnpclndiichcaaGreatDoor
end
section
set_option linter.unusedVariables false
set_option linter.unusedSimpArgs false
namespace Go.Proofs.YtbnpclndiichcaaGreatDoor
open Go Go.Proofs.YtbnpclndiichcaaGreatDoor.Eng Go.Proofs.YtbnpclndiichcaaGreatDoor.Pl
set_option maxRecDepth 100000
set_option maxHeartbeats 2000000
theorem RV_cut (l:List Rec) (a n:Nat):cutL (RV l) a n=RV ((l.drop a).take n):=by simp [cutL,RV]
theorem getD_at {α:Type} (l:List α) (i:Nat) (d:α) (h:i < l.length):l.getD i d=l[i]:=by
 rw [List.getD_eq_getElem?_getD,List.getElem?_eq_getElem h]; rfl
theorem sLeaps (l:List Rec) (hl:l.length≤100000) {K} (h:K (RV (leapsR l)) false true):Xq2u (RV l) K:=by
 unfold Xq2u Yq2u
 simp only [RV_len,beq_iff_eq,decide_eq_true_eq]
 have e1:w64 ((l.length:Int) - 1)=(l.length:Int) - 1:=w64_in (by omega) (by omega)
 have e2:w64 ((l.length:Int) - 1 - 1)=(l.length:Int) - 1 - 1:=w64_in (by omega) (by omega)
 rw [e1,e2]
 simp only [lt]
 have cut:∀ n:Nat,n=l.length - 1→cutL (RV l) 0 (Int.toNat ((l.length:Int) - 1) - 0)=RV (l.take n):=fun n hn=>by
  rw [RV_cut,List.drop_zero]; congr 2; omega
 unfold leapsR at h
 by_cases h1:l.length=1
 ·have g:=getD_at l 0 (0,0) (by omega)
  have le:lastExp l=((l[0]'(by omega)).2 == 0):=by
   unfold lastExp
   rw [g]; simp [h1]
  rw [if_pos (by omega),if_pos (by omega)]
  refine asR2 (by omega) ?_
  by_cases h2:(l[0]'(by omega)).2=0
  ·rw [if_pos h2,if_pos h2,if_pos (by omega),if_pos (by omega),cut _ rfl]
   rw [le,h2,if_pos (beq_self_eq_true _)] at h
   exact h
  ·rw [if_neg h2,if_neg (by omega)]
   rw [le,if_neg (by simpa using h2)] at h
   exact h
 ·rw [if_neg (by omega)]
  by_cases h2:1 < l.length
  ·have g1:=getD_at l (l.length - 1) (0,0) (by omega)
   have g2:=getD_at l (l.length - 2) (0,0) (by omega)
   have le:lastExp l=((l[l.length - 1]'(by omega)).2 == (l[l.length - 2]'(by omega)).2):=by
    unfold lastExp
    rw [g1,g2]; simp [h1,h2]
   rw [if_pos (by omega),if_pos (by omega)]
   have t1:Int.toNat ((l.length:Int) - 1)=l.length - 1:=by omega
   have t2:Int.toNat ((l.length:Int) - 1 - 1)=l.length - 2:=by omega
   rw [t1,t2] at *
   refine asR2 (by omega) ?_
   rw [if_pos (by omega)]
   refine asR2 (by omega) ?_
   by_cases h3:(l[l.length - 1]'(by omega)).2=(l[l.length - 2]'(by omega)).2
   ·have cut2:cutL (RV l) 0 (l.length - 1 - 0)=RV (l.take (l.length - 1)):=by rw [RV_cut]; simp
    rw [if_pos h3,if_pos (by omega),if_pos (by omega),cut2]
    rw [le,h3,if_pos (beq_self_eq_true _)] at h
    exact h
   ·rw [if_neg h3]
    rw [le,if_neg (by simpa using h3)] at h
    exact h
  ·have le:lastExp l=false:=by
    unfold lastExp
    simp [h1,h2]
   rw [if_neg (by omega)]
   rw [le,if_neg (by simp)] at h
   exact h
theorem lastExp_pos {l:List Rec} (h:lastExp l=true):1≤l.length:=by
 unfold lastExp at h
 simp only [Bool.or_eq_true,Bool.and_eq_true,decide_eq_true_eq] at h
 omega
theorem leapsR_len (l:List Rec):(leapsR l).length=if lastExp l=true then l.length - 1 else l.length:=by
 unfold leapsR
 split
 ·rw [List.length_take]; omega
 ·rfl
theorem sExpiry (l:List Rec) (hl:l.length≤100000) {K:Int→Bool→Prop} (h:∀ n,K n (lastExp l)):Xq2m (RV l) K:=by
 unfold Xq2m Yq2m
 refine sLeaps l hl ?_
 simp only [RV_len,decide_eq_true_eq,leapsR_len]
 cases e:lastExp l
 ·rw [if_neg (by simp)]
  have:=h 0
  rw [e] at this; exact this
 ·have:=lastExp_pos e
  rw [if_pos (by simp; omega),if_pos (by simp; omega)]
  simp only [if_true,Int.toNat_natCast]
  refine asR1 (by omega) ?_
  have:=h (l[l.length - 1]'(by omega)).1
  rw [e] at this; exact this
def hadM (hs:List (List UInt8×Int)):List (Value×V):=hs.map fun x=>(.string (S x.1),.c (.int .i64 x.2))
theorem bs_beq (a b:List UInt8):(S a == S b)=(a == b):=by
 rw [Bool.eq_iff_iff,MapKept.bytes_beq,beq_iff_eq]
 constructor
 ·intro h
  rw [← S_toList a,← S_toList b,h]
 ·intro h; rw [h]
theorem get_had (s:List UInt8):∀ hs:List (List UInt8×Int),mpGet (S s) (hadM hs)=some ((hs.find? fun x=>x.1 == s).map fun x=>V.c (.int .i64 x.2))
 | []=>rfl
 | x :: hs=>by
  show (bif S s == S x.1 then _ else _)=_
  rw [bs_beq,List.find?_cons]
  by_cases e:s=x.1
  ·rw [e]; simp
  ·have e1:(s == x.1)=false:=by simpa using e
   have e2:(x.1 == s)=false:=by simpa using Ne.symm e
   rw [e1,e2]
   exact get_had s hs
theorem put_had (s:List UInt8) (p:Int):∀ hs:List (List UInt8×Int),hs.find? (fun x=>x.1 == s)=none→mpPut (S s) (.c (.int .i64 p)) (hadM hs)=hadM (hs++[(s,p)])
 | [],_=>rfl
 | x :: hs,h=>by
  rw [List.find?_cons] at h
  cases e:(x.1 == s)
  ·rw [e] at h
   have e1:(s == x.1)=false:=by
    rw [beq_eq_false_iff_ne] at e ⊢; exact Ne.symm e
   show (bif S s == S x.1 then _ else _)=_
   rw [bs_beq,e1]
   show _ :: mpPut (S s) _ (hadM hs)=_
   rw [put_had s p hs h]; rfl
  ·rw [e] at h; cases h
theorem poolN_congr:∀ (l a b:List (List UInt8)),(∀ s,a.contains s=b.contains s)→poolN a l=poolN b l
 | [],a,b,h=>rfl
 | s :: r,a,b,h=>by
  rw [poolN,poolN,h s]
  split
  ·exact poolN_congr r a b h
  ·rw [poolN_congr r (s :: a) (s :: b) fun t=>by simp only [List.contains_cons,h t]]
theorem poolN_le:∀ (l a:List (List UInt8)),(∀ s∈l,s.length≤10000)→poolN a l≤10001 * l.length
 | [],a,h=>by simp [poolN]
 | s :: r,a,h=>by
  rw [poolN,List.length_cons]
  have h1:=h s (.head _)
  split
  ·have:=poolN_le r a fun t ht=>h t (.tail _ ht); omega
  ·have:=poolN_le r (s :: a) fun t ht=>h t (.tail _ ht); omega
def NV (l:List (List UInt8)):List V:=l.map fun s=>.c (.string (S s))
theorem NV_len (l:List (List UInt8)):(NV l).length=l.length:=by simp [NV]
theorem asN {l:List (List UInt8)} {i:Nat} (h:i < l.length) {F:Prop} {K:ByteArray→Prop} (hk:K (S l[i])):Eng.asStr (getC (NV l) i 0) F K:=by
 have:getC (NV l) i 0=some (.c (.string (S l[i]))):=by simp [getC,NV,V.cells,h]
 rw [this]; simpa [Eng.asStr] using hk
theorem room8 (n:Nat) (h:n≤100000000):roomOk n 8=true:=by
 unfold roomOk; simp only [decide_eq_true_eq]; omega
theorem room16 (n:Nat) (h:n≤100000000):roomOk n 16=true:=by
 unfold roomOk; simp only [decide_eq_true_eq]; omega
theorem sPool (l:List (List UInt8)) (hl:l.length≤1000) (hs:∀ s∈l,s.length≤10000) {K:ByteArray→Bool→List V→Bool→Bool→Prop}
  (h:∀ p at' o z,p.size≤100000000→(l.all abbrL && decide (poolN [] l≤256))=true→p.size=poolN [] l→K p true at' o z)
  (h':(l.all abbrL && decide (poolN [] l≤256))=false→∀ p at' o z,K p false at' o z):Xq47 (NV l) K:=by
 unfold Xq47 Yq47
 rw [NV_len]
 refine lp_ind (fun x=>l.length - x.1.2.2.2.2.2.2.1.toNat) (fun x=>∃ (j:Nat) (p:List UInt8) (hd:List (List UInt8×Int)) (at':List V),j≤l.length∧x=((S p,(),false,(),NV l,(l.length:Int),(j:Int),()),hadM hd,at',()) ∧
  (l.take j).all abbrL=true∧p.length+poolN (hd.map (·.1)) (l.drop j)=poolN [] l∧at'.length=j) ?_ ⟨0,[],[],[],by omega,rfl,rfl,by simp,rfl⟩
 rintro x ⟨j,p,hd,at',hj,rfl,hall,hp,hat⟩ k hk
 have hle:=poolN_le l [] hs
 unfold Lq47_0
 simp only [decide_eq_true_eq,NV_len]
 by_cases e:j=l.length
 ·rw [if_neg (by omega)]
  rw [e,List.take_length] at hall
  rw [e,List.drop_length] at hp
  have hp':p.length=poolN [] l:=by simpa [poolN] using hp
  by_cases h2:((S p).size:Int) > 256
  ·rw [if_pos h2]
   rw [S_size] at h2
   exact h' (by rw [hall]; simp; omega) _ _ _ _
  ·rw [if_neg h2]
   rw [S_size] at h2
   exact h _ _ _ _ (by rw [S_size]; omega) (by rw [hall]; simp; omega) (by rw [S_size]; exact hp')
 ·have hj':j < l.length:=by omega
  rw [Int.toNat_natCast,if_pos (by omega),if_pos (by omega)]
  refine asN hj' ?_
  refine sabbr _ ?_
  have hd':l.drop j=l[j] :: l.drop (j+1):=List.drop_eq_getElem_cons hj'
  have ht:l.take (j+1)=l.take j++[l[j]]:=List.take_succ_eq_append_getElem hj'
  have hsl:=hs l[j] (List.getElem_mem hj')
  have hmem:=List.getElem_mem hj'
  rw [hd'] at hp
  generalize l[j]=s at *
  cases ha:abbrL s
  ·simp only [Bool.not_false,if_true]
   refine h' ?_ _ _ _ _
   have:l.all abbrL=false:=by
    rw [Bool.eq_false_iff]; intro h; rw [List.all_eq_true.1 h s hmem] at ha; cases ha
   rw [this]; rfl
  ·simp only [Bool.not_true,Bool.false_eq_true,if_false]
   rw [get_had]
   have hall':(l.take (j+1)).all abbrL=true:=by rw [ht,List.all_append,hall]; simp [ha]
   have e1:w64 ((j:Int)+1)=((j+1:Nat):Int):=by rw [w64_in (by omega) (by omega)]; omega
   have step:∀ (p':List UInt8) (hd2:List (List UInt8×Int)) (v:V),p'.length+poolN (hd2.map (·.1)) (l.drop (j+1))=poolN [] l→k ((S p',(),false,(),NV l,(l.length:Int),((j+1:Nat):Int),()),hadM hd2,at'++[v],()):=fun p' hd2 v hq=>by
    refine hk _ ⟨j+1,p',hd2,at'++[v],by omega,rfl,hall',hq,by simp [hat]⟩ ?_
    show l.length - ((j+1:Nat):Int).toNat < l.length - ((j:Nat):Int).toNat
    omega
   rw [poolN] at hp
   cases hf:hd.find? (fun x=>x.1 == s) with
   | none =>
    have hc:(hd.map (·.1)).contains s=false:=by
     rw [Bool.eq_false_iff]
     intro hc
     rw [List.contains_iff_mem,List.mem_map] at hc
     obtain ⟨y,hy,hys⟩:=hc
     have:=List.find?_eq_none.1 hf y hy
     simp [hys] at this
    rw [hc,if_neg (by simp)] at hp
    simp only [Option.map_none,Eng.asMpI,Bool.not_false,if_true,Option.isSome_some]
    have hps:p.length≤100000000:=by omega
    rw [if_neg (by rw [S_size]; omega)]
    have es:S s++ByteArray.mk #[(0:UInt8)]=S (s++[0]):=S_append s [0]
    rw [es,S_append,S_size,S_size,if_neg (by simp; omega)]
    simp only [lt]
    rw [if_pos (room8 _ (by simp; omega)),put_had s _ hd hf,e1]
    refine step (p++(s++[0])) (hd++[(s,(p.length:Int))]) _ ?_
    rw [← hp,poolN_congr (l.drop (j+1)) _ (s :: hd.map (·.1)) fun t=>by
     rw [Bool.eq_iff_iff,List.contains_iff_mem,List.contains_iff_mem,List.map_append,List.mem_append,List.mem_cons]
     simp only [List.map_cons,List.map_nil,List.mem_singleton]
     exact ⟨fun h=>h.symm,fun h=>h.symm⟩]
    simp only [List.length_append,List.length_singleton]
    omega
   | some y =>
    have hy:=List.find?_some hf
    have hc:(hd.map (·.1)).contains s=true:=by
     rw [List.contains_iff_mem,List.mem_map]
     exact ⟨y,List.mem_of_find?_eq_some hf,by simpa using hy⟩
    rw [hc,if_pos rfl] at hp
    simp only [Option.map_some,Eng.asMpI,if_true,Bool.not_true,Bool.false_eq_true,if_false]
    rw [if_pos (room8 _ (by simp; omega)),e1]
    exact step p hd _ hp
end Go.Proofs.YtbnpclndiichcaaGreatDoor
end
section
set_option linter.unusedVariables false
set_option linter.unusedSimpArgs false
namespace Go.Proofs.YtbnpclndiichcaaGreatDoor
open Go Go.Proofs.YtbnpclndiichcaaGreatDoor.Eng Go.Proofs.YtbnpclndiichcaaGreatDoor.Pl
set_option maxRecDepth 100000
set_option maxHeartbeats 2000000
structure ZI (z:Zn):Prop where
 ty:z.ty.length≤100
 tr:z.tr.length≤2000
 lp:z.lp.length≤300
 ft:z.ft.length≤5000
 nm:∀ t∈z.ty,t.2.2.length≤100
 ri:recI z.lp
 ti:recI z.tr
 v:i64r z.v
theorem tupZ_eq (z:Zn):tupZ z=(TV z.ty,RV z.tr,RV z.lp,S z.ft,z.v,()):=rfl
theorem spool (z:Zn) (h:ZI z) {K:ByteArray→Bool→List V→Bool→Bool→Prop}
  (hk:∀ p at' o y,p.size≤100000000→((z.ty.map (·.2.2)).all abbrL && decide (poolN [] (z.ty.map (·.2.2))≤256))=true→p.size=poolN [] (z.ty.map (·.2.2))→K p true at' o y)
  (hk':((z.ty.map (·.2.2)).all abbrL && decide (poolN [] (z.ty.map (·.2.2))≤256))=false→∀ p at' o y,K p false at' o y):Xq3v (tupZ z) K:=by
 unfold Xq3v Yq3v
 simp only [tupZ_eq,TV_len]
 refine lp_at (fun j=>((ByteArray.mk #[],(),false,(),TV z.ty,(z.ty.length:Int),(j:Int),()),NV ((z.ty.map (·.2.2)).take j),())) z.ty.length rfl fun n hn k hkk=>?_
 unfold Lq3v_0
 simp only [decide_eq_true_eq,TV_len]
 by_cases e:n=z.ty.length
 ·rw [if_neg (by omega),List.take_of_length_le (by simp; omega)]
  refine sPool _ (by have:=h.ty; simp; omega) (fun s hs=>?_) hk hk'
  obtain ⟨t,ht,rfl⟩:=List.mem_map.1 hs
  have:=h.nm t ht; omega
 ·have hn':n < z.ty.length:=by omega
  have hk':=hkk hn'
  have e1:w64 ((n:Int)+1)=((n+1:Nat):Int):=by have:=h.ty; rw [w64_in (by omega) (by omega)]; omega
  rw [Int.toNat_natCast,if_pos (by omega),if_pos (by omega)]
  refine asT1 hn' (asT2 hn' (asT3 hn' ?_))
  rw [if_pos (room16 _ (by rw [NV_len]; have:=h.ty; simp; omega)),e1]
  refine (congrArg k ?_).mp hk'
  have:NV ((z.ty.map (·.2.2)).take (n+1))=NV ((z.ty.map (·.2.2)).take n)++[.c (.string (S (z.ty[n]).2.2))]:=by
   rw [List.take_succ_eq_append_getElem (by simpa using hn')]
   simp [NV]
  rw [this]
theorem hwithin (n a b:Int) {K:Bool→Prop} (h:K (nin n a b)):Xq38 n a b K:=by
 unfold Xq38 Yq38
 unfold nin at h
 simp only [decide_eq_true_eq]
 by_cases h1:n≥a
 ·rw [if_pos h1]
  have:decide (a≤n∧n≤b)=decide (n≤b):=by simp; intro _; omega
  rw [this] at h; exact h
 ·rw [if_neg h1]
  have:decide (a≤n∧n≤b)=false:=by simp; omega
  rw [this] at h; exact h
theorem shead (v lp tr ty ch:Int) {K:Bool→Prop} (h:K (nin lp 0 201 && nin tr 0 2000 && nin ty 1 64 && nin ch 1 256 && nin v 1 4)):Xq3m (v,0,0,lp,tr,ty,ch,()) K:=by
 unfold Xq3m Yq3m
 refine hwithin _ _ _ ?_
 cases h1:nin lp 0 201
 ·rw [h1] at h
  simp only [Bool.false_and] at h
  simp only [Bool.false_eq_true,if_false,beq_self_eq_true,if_true]
  exact h
 rw [h1] at h
 rw [if_pos rfl]
 refine hwithin _ _ _ ?_
 cases h2:nin tr 0 2000
 ·rw [h2] at h
  simp only [Bool.false_and,Bool.and_false] at h
  simp only [Bool.false_eq_true,if_false,beq_self_eq_true,if_true]
  exact h
 rw [h2] at h
 rw [if_pos rfl]
 refine hwithin _ _ _ ?_
 cases h3:nin ty 1 64
 ·rw [h3] at h
  simp only [Bool.false_and,Bool.and_false] at h
  simp only [Bool.false_eq_true,if_false,beq_self_eq_true,if_true]
  exact h
 rw [h3] at h
 rw [if_pos rfl]
 refine hwithin _ _ _ ?_
 simp only [beq_self_eq_true,if_true]
 cases h4:nin ch 1 256
 ·rw [h4] at h
  simp only [Bool.false_and,Bool.and_false] at h
  simp only [Bool.false_eq_true,if_false]
  exact h
 rw [h4] at h
 rw [if_pos rfl]
 refine hwithin _ _ _ ?_
 simpa using h
theorem scount (z:Zn) (h:ZI z) {K:Int×Int×Int×Int×Int×Int×Int×Unit→Bool→Prop} (hk:∀ r,K r (countOk z)):Xq32 (tupZ z) K:=by
 unfold Xq32 Yq32
 have hk1:∀ r b,b=countOk z→K r b:=fun r b e=>e ▸ hk r
 refine spool z h (fun p at' o y hp hok hsz=>?_) fun hbad p at' o y=>?_
 ·rw [if_neg (by simp)]
  simp only [tupZ_eq,TV_len,RV_len,hsz]
  refine shead _ _ _ _ _ ?_
  have e:countOk z=(nin z.lp.length 0 201 && nin z.tr.length 0 2000 && nin z.ty.length 1 64 && nin (poolN [] (z.ty.map (·.2.2)):Nat) 1 256 && nin z.v 1 4):=by
   unfold countOk
   rw [hok,Bool.true_and]
  cases hb:(nin z.lp.length 0 201 && nin z.tr.length 0 2000 && nin z.ty.length 1 64 && nin (poolN [] (z.ty.map (·.2.2)):Nat) 1 256 && nin z.v 1 4)
  ·rw [if_pos (show (!false)=true from rfl)]; exact hk1 _ _ (by rw [e,hb])
  ·rw [if_neg (by simp)]; exact hk1 _ _ (by rw [e,hb])
 ·rw [if_pos (show (!false)=true from rfl)]
  refine hk1 _ _ ?_
  unfold countOk
  rw [hbad]; simp
theorem sallT (l:List Ty) (hl:l.length≤100000) {K:Bool→Prop} (h:K (l.all (fun t=>decide (-89999≤t.1∧t.1≤93599)))):Xq0c (TV l) K:=by
 unfold Xq0c Yq0c
 rw [TV_len]
 refine lp_ind (fun x=>l.length - x.1.2.2.2.2.1.toNat) (fun x=>∃ j:Nat,j≤l.length∧x=((((),()),false,TV l,(l.length:Int),(j:Int),()),())∧(l.take j).all (fun t=>decide (-89999≤t.1∧t.1≤93599))=true) ?_ ⟨0,by omega,rfl,rfl⟩
 rintro x ⟨j,hj,rfl,hall⟩ k hk
 unfold Lq0c_0
 simp only [decide_eq_true_eq,TV_len]
 by_cases e:j=l.length
 ·rw [if_neg (by omega)]
  rw [e,List.take_length] at hall
  rw [hall] at h; exact h
 ·have hj':j < l.length:=by omega
  rw [Int.toNat_natCast,if_pos (by omega),if_pos (by omega)]
  refine asT1 hj' (asT2 hj' (asT3 hj' ?_))
  have ht:l.take (j+1)=l.take j++[l[j]]:=List.take_succ_eq_append_getElem hj'
  have hmem:=List.getElem_mem hj'
  generalize l[j]=t at *
  have e1:w64 ((j:Int)+1)=((j+1:Nat):Int):=by rw [w64_in (by omega) (by omega)]; omega
  unfold Xq2q Yq2q
  simp only [decide_eq_true_eq,e1]
  have bad:¬ (-89999≤t.1∧t.1≤93599)→K false:=fun hn=>by
   have:l.all (fun t=>decide (-89999≤t.1∧t.1≤93599))=false:=by
    rw [Bool.eq_false_iff]; intro hh; exact hn (by simpa using List.all_eq_true.1 hh t hmem)
   rw [this] at h; exact h
  by_cases h1:t.1≥-89999
  ·rw [if_pos h1]
   by_cases h2:t.1≤93599
   ·rw [if_neg (by simpa using h2)]
    refine hk _ ⟨j+1,by omega,rfl,?_⟩ ?_
    ·rw [ht,List.all_append,hall]; simp; exact ⟨h1,h2⟩
    ·show l.length - ((j+1:Nat):Int).toNat < l.length - ((j:Nat):Int).toNat
     omega
   ·rw [if_pos (by simpa using h2)]; exact bad (by omega)
  ·rw [if_neg h1,if_pos (by simp)]; exact bad (by omega)
end Go.Proofs.YtbnpclndiichcaaGreatDoor
end
section
set_option linter.unusedVariables false
set_option linter.unusedSimpArgs false
namespace Go.Proofs.YtbnpclndiichcaaGreatDoor
open Go Go.Proofs.YtbnpclndiichcaaGreatDoor.Eng Go.Proofs.YtbnpclndiichcaaGreatDoor.Pl
theorem kind_iff {o:Int} {d:Bool} {l:List UInt8} {w:Bool}:kindR o d l w=true↔abbrL l=true∧d=w∧-89999≤o∧o≤89999:=by
 unfold kindR; simp [and_assoc]
theorem abbr_len {l:List UInt8} (h:abbrL l=true):3≤l.length∧l.length≤16:=by
 unfold abbrL at h; simp at h; omega
theorem sruleAtR (r:Ru) (y:Int) {K} (h:if (1≤y∧y≤9999)∧r.ok=true then K (r.at y) true else K 0 false):Xq4u (tupRu r) y K:=by
 refine sruleAt _ _ _ _ _ _ ?_
 by_cases e:(1≤y∧y≤9999)∧rightR r.k r.a r.b r.c r.x=true
 ·have e':(1≤y∧y≤9999)∧r.ok=true:=e
  rw [if_pos e'] at h
  rw [if_pos e,decide_eq_true e]; exact h
 ·have e':¬ ((1≤y∧y≤9999)∧r.ok=true):=e
  rw [if_neg e'] at h
  rw [if_neg e,decide_eq_false e]; exact h
theorem sfootSpan (f:Ft) (y:Int) {K} (h:if f.spans y then K (f.from' y) (f.to' y) true else K 0 0 false):Xq4f (tupFt f) y K:=by
 unfold Xq4f Yq4f
 by_cases eh:f.has=true
 ·refine ifF (by simp [eh]) (sfootRight f ?_)
  by_cases e:f.ok=true
  ·refine ifF (by simp [e]) (sruleAtR f.fr y ?_)
   have e':=e
   unfold Ft.ok at e'
   rw [if_pos eh,Bool.and_eq_true,Bool.and_eq_true,Bool.and_eq_true] at e'
   obtain ⟨e0,⟨e1,e2⟩,e3⟩:=e'
   obtain ⟨k1,k2,k3,k4⟩:=kind_iff.1 e0
   obtain ⟨j1,j2,j3,j4⟩:=kind_iff.1 e1
   have r1:=(right_iff _ _ _ _ _).1 e2
   have r2:=(right_iff _ _ _ _ _).1 e3
   by_cases ey:1≤y∧y≤9999
   ·have hsp:f.spans y:=⟨eh,e,ey.1,ey.2⟩
    rw [if_pos hsp] at h
    have d1:=ruleDay_bd ey e2
    have d2:=ruleDay_bd ey e3
    have hf:=fst_bd ey.1 ey.2
    have hf2:=fst_succ y
    refine ifT ⟨ey,e2⟩ (ifF (by simp) (sruleAtR f.to y (ifT ⟨ey,e3⟩ ?_)))
    unfold Ft.from' Ft.to' at h
    show K (w64 (f.fr.at y - f.so)) (w64 (f.to.at y - f.wo)) true
    unfold Ru.at at h ⊢
    rw [w64_in (by omega) (by omega),w64_in (by omega) (by omega)]
    exact h
   ·rw [if_neg (fun h=>ey ⟨h.2.2.1,h.2.2.2⟩)] at h
    exact ifF (fun h=>ey h.1) (ifT rfl h)
  ·rw [if_neg (fun h=>e h.2.1)] at h
   exact ifT (by simpa using e) h
 ·rw [if_neg (fun h=>eh h.1)] at h
  exact ifT (by simpa using eh) h
theorem syear (n:Int) (h0:-9223372036854775808≤n) (h1:n≤9223372036854775807) {K} (h:if inDays n then K (yearP (n / 86400)) true else K 0 false):Xq4g n K:=by
 rw [Xq4g,Yq4g]
 refine sdiv _ _ h0 h1 (by omega) (by omega) (sday _ ?_)
 by_cases e:inDays n
 ·rw [if_pos e] at h
  exact ifT e h
 ·rw [if_neg e] at h
  exact ifF e h
theorem sfootLookup (f:Ft) (p:Int) (hp:-9223372036854775808≤p∧p≤9223372036854775807) (ho:-9223372036854775808≤f.so∧f.so≤9223372036854775807) {K} (h:if f.sum p then K (f.wo,f.wd,S f.wa,()) else K (f.so,f.sd,S f.sa,())):Xq3f (tupFt f) p K:=by
 unfold Xq3f Yq3f
 refine sadd _ _ hp ho ?_
 have std:¬ f.sum p→K (f.so,f.sd,S f.sa,()):=fun hn=>by rw [if_neg hn] at h; exact h
 have dst:f.sum p→K (f.wo,f.wd,S f.wa,()):=fun hn=>by rw [if_pos hn] at h; exact h
 by_cases e:-9223372036854775808≤p+f.so∧p+f.so≤9223372036854775807
 ·refine ifT e (syear _ e.1 e.2 ?_)
  by_cases ed:inDays (p+f.so)
  ·refine ifT ed (sfootSpan f _ ?_)
   by_cases es:f.spans (yearP ((p+f.so) / 86400))
   ·refine ifT es (ifF (by simp) (ifF (by simp) (ifF (by simp) ?_)))
    have hs:f.sum p↔((f.from' (yearP ((p+f.so) / 86400))≤p∧p < f.to' (yearP ((p+f.so) / 86400)))∨(f.to' (yearP ((p+f.so) / 86400))≤f.from' (yearP ((p+f.so) / 86400))∧(f.from' (yearP ((p+f.so) / 86400))≤p∨p < f.to' (yearP ((p+f.so) / 86400))))) :=
     ⟨fun h=>h.2.2,fun h=>⟨ed,es,h⟩⟩
    simp only [decide_eq_true_eq,ge_iff_le]
    generalize f.from' (yearP ((p+f.so) / 86400))=a at *
    generalize f.to' (yearP ((p+f.so) / 86400))=b at *
    refine ifC (fun h1=>ifC (fun h2=>dst (hs.2 (by omega))) fun h2=>ifC (fun h3=>ifC (fun h4=>dst (hs.2 (by omega))) fun h4=>absurd h1 h4) fun h3=>std (fun h=>by have:=hs.1 h; omega))
     fun h1=>ifC (fun h3=>ifC (fun h4=>absurd h4 h1) fun h4=>ifC (fun h5=>dst (hs.2 (by omega))) fun h5=>std (fun h=>by have:=hs.1 h; omega)) fun h3=>std (fun h=>by have:=hs.1 h; omega)
   ·exact ifF es (ifF (by simp) (ifF (by simp) (ifT (by simp) (std fun h=>es h.2.1))))
  ·refine ifF ed (sfootSpan f _ ?_)
   have:¬ f.spans 0:=fun h=>by have:=h.2.2.1; omega
   exact ifF this (ifF (by simp) (ifT (by simp) (std fun h=>ed h.1)))
 ·refine ifF e (syear 0 (by omega) (by omega) ?_)
  have h0:inDays 0:=by unfold inDays; omega
  refine ifT h0 (sfootSpan f _ ?_)
  have out:¬ f.sum p:=fun h=>e (by have:=h.1; unfold inDays at this; omega)
  refine ifC (fun _=>ifT (by simp) (std out)) fun _=>ifT (by simp) (std out)
end Go.Proofs.YtbnpclndiichcaaGreatDoor
end
section
set_option linter.unusedVariables false
set_option linter.unusedSimpArgs false
namespace Go.Proofs.YtbnpclndiichcaaGreatDoor
open Go Go.Proofs.YtbnpclndiichcaaGreatDoor.Eng Go.Proofs.YtbnpclndiichcaaGreatDoor.Pl
def i64 (n:Int):Prop:=-9223372036854775808≤n∧n≤9223372036854775807
theorem ok_so {f:Ft} (h:f.ok=true):-89999≤f.so∧f.so≤89999∧f.sd=false∧abbrL f.sa=true:=by
 unfold Ft.ok at h
 rw [Bool.and_eq_true] at h
 obtain ⟨k1,k2,k3,k4⟩:=kind_all.1 h.1
 exact ⟨k3,k4,k2,k1⟩
theorem not_true (b:Bool):((!b)=true)=¬ (b=true):=by cases b <;> simp
end Go.Proofs.YtbnpclndiichcaaGreatDoor
end
section
set_option linter.unusedVariables false
set_option linter.unusedSimpArgs false
namespace Go.Proofs.YtbnpclndiichcaaGreatDoor
open Go Go.Proofs.YtbnpclndiichcaaGreatDoor.Eng Go.Proofs.YtbnpclndiichcaaGreatDoor.Pl
set_option maxRecDepth 100000
set_option maxHeartbeats 2000000
def Srt (l:List Rec):Prop:=∀ (s t:Nat) (hs:s < l.length) (ht:t < l.length),s≤t→(l[s]).1≤(l[t]).1
theorem half {i j:Nat} (h:i+j≤1000000):w64 (Int.fdiv (wu64 (w64 ((i:Int)+(j:Int)))) 2)=(((i+j) / 2:Nat):Int):=by
 have e1:w64 ((i:Int)+(j:Int))=(i:Int)+(j:Int):=w64_in (by omega) (by omega)
 have e2:wu64 ((i:Int)+(j:Int))=(i:Int)+(j:Int):=by
  simp only [wu64,IntKind.wrap,IntKind.bits,IntKind.signed]
  try simp
  try omega
 rw [e1,e2,Int.fdiv_eq_ediv_of_nonneg _ (by omega),w64_in (by omega) (by omega)]
 omega
def Bin (q:Rec→Bool) (l:List Rec) (i j:Nat):Prop:=i≤j∧j≤l.length∧(∀ t (ht:t < l.length),t < i→q l[t]=false)∧(∀ t (ht:t < l.length),j≤t→q l[t]=true)
def Mono (q:Rec→Bool) (l:List Rec):Prop:=∀ (s t:Nat) (hs:s < l.length) (ht:t < l.length),s≤t→q l[s]=true→q l[t]=true
theorem Bin.low {q:Rec→Bool} {l:List Rec} {i j h:Nat} (hb:Bin q l i j) (hm:Mono q l) (h1:i≤h) (h2:h < j) (hl:h < l.length) (hq:q l[h]=false):Bin q l (h+1) j:=by
 obtain ⟨b1,b2,b3,b4⟩:=hb
 refine ⟨by omega,b2,fun t ht hlt=>?_,b4⟩
 cases e:q l[t]
 ·rfl
 ·rw [hm t h ht hl (by omega) e] at hq; cases hq
theorem Bin.high {q:Rec→Bool} {l:List Rec} {i j h:Nat} (hb:Bin q l i j) (hm:Mono q l) (h1:i≤h) (h2:h < j) (hl:h < l.length) (hq:q l[h]=true):Bin q l i h:=by
 obtain ⟨b1,b2,b3,b4⟩:=hb
 exact ⟨by omega,by omega,b3,fun t ht hlt=>hm h t hl ht hlt hq⟩
theorem Bin.fl {q:Rec→Bool} {l:List Rec} {i:Nat} (hb:Bin q l i i):Pl.fl q l=i:=by
 obtain ⟨b1,b2,b3,b4⟩:=hb
 exact fl_of q l i b2 b3 fun h=>b4 i h (Nat.le_refl _)
theorem gt_mono {l:List Rec} (h:Srt l) (a:Int):Mono (fun c=>decide (c.1 > a)) l:=fun s t hs ht hst hq=>by
 have:=h s t hs ht hst
 simp only [decide_eq_true_eq] at *
 omega
theorem ge_mono {l:List Rec} (h:Srt l) (a:Int):Mono (fun c=>decide (c.1≥a)) l:=fun s t hs ht hst hq=>by
 have:=h s t hs ht hst
 simp only [decide_eq_true_eq] at *
 omega
theorem sSearchZ (tr:List Rec) (hs:Srt tr) (hl:tr.length≤100000) (ty lp:List V) (ft:ByteArray) (v a:Int) {K} (h:K (Pl.fl (fun c:Rec=>decide (c.1 > a)) tr:Int) ft v a ty false true (RV tr) false true lp false true) :
  Xq33 (tr.length:Int) ty (RV tr) lp ft v a K:=by
 unfold Xq33 Yq33
 refine lp_ind (fun x=>(x.1.2.2.2.1 - x.1.2.2.1).toNat) (fun x=>∃ i j:Nat,Bin (fun c:Rec=>decide (c.1 > a)) tr i j∧x=((((),(),(),()),(0:Int),(i:Int),(j:Int),()),(ty,RV tr,lp,ft,v,()),(a,()),())) ?_ ⟨0,tr.length,⟨by omega,by omega,fun t ht h=>by omega,fun t ht h=>by omega⟩,rfl⟩
 rintro x ⟨i,j,hb,rfl⟩ k hk
 obtain ⟨b1,b2,_,_⟩:=id hb
 unfold Lq33_0
 simp only [decide_eq_true_eq]
 by_cases e:i=j
 ·subst e
  rw [if_neg (by omega)]
  rw [hb.fl] at h; exact h
 ·rw [if_pos (by omega)]
  simp only [lt]
  rw [half (by omega)]
  have hlt:(i+j) / 2 < tr.length:=by omega
  unfold Xq2w Yq2w
  rw [RV_len,if_pos (by omega),Int.toNat_natCast]
  refine asR1 hlt ?_
  dsimp only
  have e1:w64 ((((i+j) / 2:Nat):Int)+1)=(((i+j) / 2+1:Nat):Int):=by rw [w64_in (by omega) (by omega)]; omega
  cases hq:decide ((tr[(i+j) / 2]).1 > a)
  ·rw [if_pos (show (!false)=true from rfl),e1]
   refine hk _ ⟨(i+j) / 2+1,j,hb.low (gt_mono hs a) (by omega) (by omega) hlt hq,rfl⟩ ?_
   show ((j:Int) - (((i+j) / 2+1:Nat):Int)).toNat < ((j:Int) - (i:Int)).toNat
   omega
  ·rw [if_neg (by simp)]
   refine hk _ ⟨i,(i+j) / 2,hb.high (gt_mono hs a) (by omega) (by omega) hlt hq,rfl⟩ ?_
   show ((((i+j) / 2:Nat):Int) - (i:Int)).toNat < ((j:Int) - (i:Int)).toNat
   omega
theorem zIndex (z:Zn) (hz:ZI z) (hs:Srt z.tr) (a:Int) {K:Int→Prop} (h:K ((indexN z a:Int) - 1)):Xq3n (tupZ z) a K:=by
 unfold Xq3n Yq3n
 simp only [tupZ_eq,RV_len]
 refine sSearchZ z.tr hs (by have:=hz.tr; omega) _ _ _ _ _ ?_
 have h1:=fl_le (fun c:Rec=>decide (c.1 > a)) z.tr
 have h2:=hz.tr
 rw [w64_in (by omega) (by omega)]
 exact h
theorem sSearchS (l:List Rec) (hs:Srt l) (hl:l.length≤100000) (o f:Bool) (a:Int) {K} (h:∀ o f,K (Pl.fl (fun c:Rec=>decide (c.1 > a)) l:Int) a (RV l) o f):Xq2o (l.length:Int) a (RV l) o f K:=by
 unfold Xq2o Yq2o
 refine lp_ind (fun x=>(x.1.2.2.2.1 - x.1.2.2.1).toNat) (fun x=>∃ (i j:Nat) (y:List V×Bool×Bool),Bin (fun c:Rec=>decide (c.1 > a)) l i j∧x=((((),(),(),()),(0:Int),(i:Int),(j:Int),()),(RV l,()),(a,()),y,())) ?_ ⟨0,l.length,_,⟨by omega,by omega,fun t ht h=>by omega,fun t ht h=>by omega⟩,rfl⟩
 rintro x ⟨i,j,y,hb,rfl⟩ k hk
 obtain ⟨b1,b2,_,_⟩:=id hb
 unfold Lq2o_0
 simp only [decide_eq_true_eq]
 by_cases e:i=j
 ·subst e
  rw [if_neg (by omega)]
  have:=h false true
  rw [hb.fl] at this; exact this
 ·rw [if_pos (by omega)]
  simp only [lt]
  rw [half (by omega)]
  have hlt:(i+j) / 2 < l.length:=by omega
  unfold Xq2h Yq2h
  rw [RV_len,if_pos (by omega),Int.toNat_natCast]
  refine asR1 hlt ?_
  dsimp only
  have e1:w64 ((((i+j) / 2:Nat):Int)+1)=(((i+j) / 2+1:Nat):Int):=by rw [w64_in (by omega) (by omega)]; omega
  cases hq:decide ((l[(i+j) / 2]).1 > a)
  ·rw [if_pos (show (!false)=true from rfl),e1]
   refine hk _ ⟨(i+j) / 2+1,j,_,hb.low (gt_mono hs a) (by omega) (by omega) hlt hq,rfl⟩ ?_
   show ((j:Int) - (((i+j) / 2+1:Nat):Int)).toNat < ((j:Int) - (i:Int)).toNat
   omega
  ·rw [if_neg (by simp)]
   refine hk _ ⟨i,(i+j) / 2,_,hb.high (gt_mono hs a) (by omega) (by omega) hlt hq,rfl⟩ ?_
   show ((((i+j) / 2:Nat):Int) - (i:Int)).toNat < ((j:Int) - (i:Int)).toNat
   omega
theorem sSum (l:List Rec) (hs:Srt (leapsR l)) (hl:l.length≤100000) (a:Int) {K:Int→Prop} (h:K (sumR l a)):Xq3h (RV l) a K:=by
 unfold Xq3h Yq3h
 refine sLeaps l hl ?_
 rw [RV_len]
 have hl2:(leapsR l).length≤100000:=by rw [leapsR_len]; split <;> omega
 refine sSearchS (leapsR l) hs hl2 _ _ _ fun o f=>?_
 unfold sumR at h
 have h1:=fl_le (fun c:Rec=>decide (c.1 > a)) (leapsR l)
 generalize Pl.fl (fun c:Rec=>decide (c.1 > a)) (leapsR l)=m at *
 simp only [beq_iff_eq]
 by_cases e:m=0
 ·subst e
  rw [if_pos (show ((0:Nat):Int)=0 from rfl)]
  exact h
 ·rw [if_neg (by omega)]
  have e1:w64 ((m:Int) - 1)=((m - 1:Nat):Int):=by rw [w64_in (by omega) (by omega)]; omega
  rw [e1,RV_len,if_pos (by omega),Int.toNat_natCast]
  refine asR2 (by omega) ?_
  have:((leapsR l).take m).getLast? = some ((leapsR l)[m - 1]'(by omega)):=by
   rw [List.getLast?_eq_getElem?,List.length_take,Nat.min_eq_left h1,List.getElem?_take,if_pos (by omega),List.getElem?_eq_getElem (by omega)]
  rw [this] at h
  exact h
end Go.Proofs.YtbnpclndiichcaaGreatDoor
end
section
set_option linter.unusedVariables false
set_option linter.unusedSimpArgs false
namespace Go.Proofs.YtbnpclndiichcaaGreatDoor
open Go Go.Proofs.YtbnpclndiichcaaGreatDoor.Eng Go.Proofs.YtbnpclndiichcaaGreatDoor.Pl
set_option maxRecDepth 100000
set_option maxHeartbeats 2000000
theorem trOk_cons (n:Nat) (b:Option Int) (c:Rec) (r:List Rec):trOk n b (c :: r)=true↔((0≤c.2∧c.2 < n)∧(∀ a,b=some a→c.1 > a))∧trOk n (some c.1) r=true:=by
 cases b with
 | none=>simp [trOk]
 | some a=>simp [trOk]
theorem sallTr (ty:List Ty) (tr:List Rec) (hl:tr.length≤100000) (lp:List V) (ft:ByteArray) (v:Int) {K} (h:K (trOk ty.length none tr) ft v (TV ty) false true (RV tr) false true lp false true) :
  Xq0a (RV tr) (TV ty) (RV tr) lp ft v K:=by
 unfold Xq0a Yq0a
 rw [RV_len]
 refine lp_ind (fun x=>tr.length - x.1.2.2.2.2.1.toNat) (fun x=>∃ (j:Nat) (b:Option Int),j≤tr.length∧x=((((),(),()),false,RV tr,(tr.length:Int),(j:Int),()),(TV ty,RV tr,lp,ft,v,()),())∧trOk ty.length b (tr.drop j)=trOk ty.length none tr∧(j=0→b=none)∧(∀ (h0:0 < j) (hj:j - 1 < tr.length),b=some (tr[j - 1]).1)) ?_ ⟨0,none,by omega,rfl,rfl,fun _=>rfl,fun h=>absurd h (by omega)⟩
 rintro x ⟨j,b,hj,rfl,hok,hb0,hb1⟩ k hk
 unfold Lq0a_0
 simp only [decide_eq_true_eq,RV_len]
 by_cases e:j=tr.length
 ·rw [if_neg (by omega)]
  have:trOk ty.length none tr=true:=by rw [← hok,e,List.drop_length]; rfl
  rw [this] at h; exact h
 ·have hj':j < tr.length:=by omega
  rw [Int.toNat_natCast,if_pos (by omega),if_pos (by omega)]
  refine asR1 hj' (asR2 hj' ?_)
  have hd:tr.drop j=tr[j] :: tr.drop (j+1):=List.drop_eq_getElem_cons hj'
  rw [hd] at hok
  have hcons:=trOk_cons ty.length b tr[j] (tr.drop (j+1))
  rw [hok] at hcons
  have e1:w64 ((j:Int)+1)=((j+1:Nat):Int):=by rw [w64_in (by omega) (by omega)]; omega
  have bad:∀ w,w=false→¬ ((0≤(tr[j]).2∧(tr[j]).2 < ty.length)∧(∀ a,b=some a→(tr[j]).1 > a))→K w ft v (TV ty) false true (RV tr) false true lp false true:=fun w hw hn=>by
   have:trOk ty.length none tr=false:=by
    cases hr:trOk ty.length none tr
    ·rfl
    ·exact absurd (hcons.1 hr).1 hn
   rw [this] at h; rw [hw]; exact h
  have good:((0≤(tr[j]).2∧(tr[j]).2 < ty.length)∧(∀ a,b=some a→(tr[j]).1 > a))→k ((((),(),()),false,RV tr,(tr.length:Int),((j+1:Nat):Int),()),(TV ty,RV tr,lp,ft,v,()),()):=fun hg=>by
   refine hk _ ⟨j+1,some (tr[j]).1,by omega,rfl,?_,fun h=>absurd h (by omega),fun h0 hj=>rfl⟩ ?_
   ·rw [Bool.eq_iff_iff]
    exact ⟨fun hr=>hcons.2 ⟨hg,hr⟩,fun hr=>(hcons.1 hr).2⟩
   ·show tr.length - ((j+1:Nat):Int).toNat < tr.length - ((j:Nat):Int).toNat
    omega
  unfold Xq30 Yq30
  simp only [decide_eq_true_eq,TV_len,RV_len,beq_iff_eq,e1]
  by_cases c1:(tr[j]).2≥0
  ·rw [if_pos c1]
   by_cases c2:(tr[j]).2 < (ty.length:Int)
   ·rw [if_pos c2]
    by_cases c3:j=0
    ·rw [if_pos (by omega),if_neg (by simp)]
     exact good ⟨⟨c1,c2⟩,fun a ha=>by rw [hb0 c3] at ha; cases ha⟩
    ·rw [if_neg (by omega)]
     have e2:w64 ((j:Int) - 1)=((j - 1:Nat):Int):=by rw [w64_in (by omega) (by omega)]; omega
     rw [e2,if_pos (by omega),Int.toNat_natCast]
     refine asR1 (by omega) ?_
     have hb:=hb1 (by omega) (by omega)
     by_cases c4:(tr[j]).1 > (tr[j - 1]'(by omega)).1
     ·rw [if_neg (by simpa using c4)]
      exact good ⟨⟨c1,c2⟩,fun a ha=>by rw [hb] at ha; cases ha; exact c4⟩
     ·rw [if_pos (by simpa using c4)]
      exact bad _ rfl fun hn=>c4 (hn.2 _ hb)
   ·rw [if_neg c2,if_pos (show (!false)=true from rfl)]
    exact bad _ rfl fun hn=>c2 hn.1.2
  ·rw [if_neg c1,if_pos (show (!false)=true from rfl)]
   exact bad _ rfl fun hn=>c1 hn.1.1
theorem sodd (k a b c x:Int) {K:Bool→Prop} (h:K (oddR x)):Xq4p (k,a,b,c,x,()) K:=by
 unfold Xq4p Yq4p
 unfold oddR at h
 simp only [decide_eq_true_eq]
 by_cases h1:x < 0
 ·rw [if_pos h1]
  have:decide (x < 0)=true:=decide_eq_true h1
  rw [this] at h; exact h
 ·rw [if_neg h1]
  have:decide (x < 0)=false:=decide_eq_false h1
  rw [this] at h; exact h
theorem S_nil (l:List UInt8):(ByteArray.toList (S l) == ByteArray.toList (ByteArray.mk #[]))=l.isEmpty:=by
 rw [show ByteArray.mk #[]=S [] from rfl,S_toList,S_toList]
 cases l <;> rfl
theorem sends (z:Zn) (h:ZI z) (X Y L) {K:Bool→Prop} (hk:K (endsOk z)):Xq4a (X,Y,L,S z.ft,z.v,()) K:=by
 unfold Xq4a Yq4a
 simp only [S_nil]
 unfold endsOk at hk
 cases e:z.ft.isEmpty
 ·rw [e] at hk
  rw [if_neg (by simp)]
  refine sfootParse z.ft (by have:=h.ft; omega) ?_
  refine sodd _ _ _ _ _ ?_
  simp only [Bool.false_or] at hk
  generalize (Ft.parse z.ft).1=f at *
  generalize (Ft.parse z.ft).2=o at *
  have ge:∀ n:Int,n=3∨n=2→True:=fun _ _=>trivial
  cases h1:oddR f.fr.x
  ·rw [if_neg (by simp)]
   refine sodd _ _ _ _ _ ?_
   rw [h1] at hk
   cases h2:oddR f.to.x
   ·rw [h2] at hk
    rw [if_neg (by simp)]
    cases o
    ·simpa using hk
    ·simpa using hk
   ·rw [h2] at hk
    rw [if_pos rfl]
    cases o
    ·simpa using hk
    ·simpa using hk
  ·rw [h1] at hk
   rw [if_pos rfl]
   cases o
   ·simpa using hk
   ·simpa using hk
 ·rw [e] at hk
  rw [if_pos rfl]
  exact hk
theorem sRight (z:Zn) (h:ZI z) {K:Bool→Prop} (hk:K (zoneRight z)):Xq3k (tupZ z) K:=by
 show Xq3k (TV z.ty,RV z.tr,RV z.lp,S z.ft,z.v,()) K
 unfold Xq3k Yq3k
 dsimp only
 unfold zoneRight at hk
 refine scount z h fun r=>?_
 cases e1:countOk z
 ·rw [e1] at hk
  rw [if_pos (show (!false)=true from rfl)]
  simpa using hk
 rw [e1] at hk
 rw [if_neg (by simp)]
 refine sRecRight z.lp h.ri (by have:=h.lp; omega) ?_
 cases e2:recRight z.lp
 ·rw [e2] at hk
  rw [if_pos (show (!false)=true from rfl)]
  simpa using hk
 rw [e2] at hk
 rw [if_neg (by simp)]
 refine sExpiry z.lp (by have:=h.lp; omega) fun n=>?_
 have rest:∀ {K:Bool→Prop},K (z.ty.all (fun t=>decide (-89999≤t.1∧t.1≤93599)) && trOk z.ty.length none z.tr && endsOk z)→Xq0c (TV z.ty) (fun r20 =>
   Xq0a (RV z.tr) (TV z.ty) (RV z.tr) (RV z.lp) (S z.ft) z.v (fun r21 r22 r23 r24 r25 r26 r27 r28 r29 r30 r31 r32 =>
   (if r20=true then (if r21=true then Xq4a (r24,r27,r30,r22,r23,()) (fun r33=>K r33) else K false) else K false))):=by
  intro K hk
  refine sallT z.ty (by have:=h.ty; omega) ?_
  refine sallTr z.ty z.tr (by have:=h.tr; omega) _ _ _ ?_
  cases e4:z.ty.all (fun t=>decide (-89999≤t.1∧t.1≤93599))
  ·rw [e4] at hk
   rw [if_neg (by simp)]
   simpa using hk
  rw [e4] at hk
  rw [if_pos rfl]
  cases e5:trOk z.ty.length none z.tr
  ·rw [e5] at hk
   rw [if_neg (by simp)]
   simpa using hk
  rw [e5] at hk
  rw [if_pos rfl]
  exact sends z h _ _ _ (by simpa using hk)
 cases e3:lastExp z.lp
 ·rw [e3] at hk
  rw [if_neg (by simp)]
  exact rest (by simpa [Bool.and_assoc] using hk)
 ·rw [e3] at hk
  rw [if_pos rfl]
  by_cases e6:z.v < 4
  ·rw [if_pos (by simpa using e6)]
   have:decide (z.v≥4)=false:=by simp; omega
   rw [this] at hk
   simpa using hk
  ·rw [if_neg (by simpa using e6)]
   have:decide (z.v≥4)=true:=by simp; omega
   rw [this] at hk
   exact rest (by simpa [Bool.and_assoc] using hk)
end Go.Proofs.YtbnpclndiichcaaGreatDoor
end
section
set_option linter.unusedVariables false
set_option linter.unusedSimpArgs false
namespace Go.Proofs.YtbnpclndiichcaaGreatDoor
open Go Go.Proofs.YtbnpclndiichcaaGreatDoor.Eng Go.Proofs.YtbnpclndiichcaaGreatDoor.Pl
set_option maxRecDepth 100000
set_option maxHeartbeats 2000000
theorem trOk_all (n:Nat):∀ (l:List Rec) (b:Option Int),trOk n b l=true→(∀ i (h:i < l.length),(∀ a,b=some a→(l[i]).1 > a)∧0≤(l[i]).2∧(l[i]).2 < n)∧(∀ (s t:Nat) (hs:s < l.length) (ht:t < l.length),s < t→(l[s]).1 < (l[t]).1)
 | [],b,h=>⟨fun i h=>by simp at h,fun s t hs=>by simp at hs⟩
 | c :: r,b,h=>by
  obtain ⟨⟨h1,h2⟩,h3⟩:=(trOk_cons n b c r).1 h
  obtain ⟨ih1,ih2⟩:=trOk_all n r (some c.1) h3
  refine ⟨fun i hi=>?_,fun s t hs ht hst=>?_⟩
  ·cases i with
   | zero=>exact ⟨h2,h1⟩
   | succ i =>
    obtain ⟨q1,q2⟩:=ih1 i (by simpa using hi)
    refine ⟨fun a ha=>?_,q2⟩
    have:=q1 _ rfl
    have:=h2 a ha
    simp only [List.getElem_cons_succ]
    omega
  ·cases t with
   | zero=>omega
   | succ t =>
    cases s with
    | zero=>exact (ih1 t (by simpa using ht)).1 _ rfl
    | succ s=>exact ih2 s t (by simpa using hs) (by simpa using ht) (by omega)
theorem srt_tr {n:Nat} {l:List Rec} (h:trOk n none l=true):Srt l:=fun s t hs ht hst=>by
 rcases Nat.lt_or_ge s t with h1 | h1
 ·have:=(trOk_all n l none h).2 s t hs ht h1; omega
 ·have:s=t:=by omega
  subst this; omega
theorem recOk_all:∀ (l:List Rec) (k:Nat) (b:Rec),recOk k b l=true→(∀ i (h:i < l.length),(0 < k→b.1≤(l[i]).1)∧0≤(l[i]).1)∧(∀ (s t:Nat) (hs:s < l.length) (ht:t < l.length),s < t→(l[s]).1≤(l[t]).1)
 | [],k,b,h=>⟨fun i h=>by simp at h,fun s t hs=>by simp at hs⟩
 | c :: r,k,b,h=>by
  obtain ⟨⟨h1,h2,h3,h4⟩,h5⟩:=(recOk_cons k b c r).1 h
  obtain ⟨ih1,ih2⟩:=recOk_all r (k+1) c h5
  refine ⟨fun i hi=>?_,fun s t hs ht hst=>?_⟩
  ·cases i with
   | zero=>exact ⟨fun h=>by simp only [List.getElem_cons_zero]; omega,h2⟩
   | succ i =>
    obtain ⟨q1,q2⟩:=ih1 i (by simpa using hi)
    refine ⟨fun hk=>?_,q2⟩
    have:=q1 (by omega)
    simp only [List.getElem_cons_succ]
    omega
  ·cases t with
   | zero=>omega
   | succ t =>
    cases s with
    | zero=>exact (ih1 t (by simpa using ht)).1 (by omega)
    | succ s=>exact ih2 s t (by simpa using hs) (by simpa using ht) (by omega)
theorem srt_rec {l:List Rec} (h:recRight l=true):Srt l:=fun s t hs ht hst=>by
 rcases Nat.lt_or_ge s t with h1 | h1
 ·have:=(recOk_all l 0 _ h).2 s t hs ht h1; omega
 ·have:s=t:=by omega
  subst this; omega
theorem srt_leaps {l:List Rec} (h:Srt l):Srt (leapsR l):=by
 unfold leapsR
 split
 ·intro s t hs ht hst
  rw [List.getElem_take,List.getElem_take]
  exact h s t _ _ hst
 ·exact h
structure ZR (z:Zn):Prop extends ZI z where
 right:zoneRight z=true
theorem ZR.all {z:Zn} (h:ZR z):countOk z=true∧recRight z.lp=true∧(lastExp z.lp=true→z.v≥4)∧(z.ty.all (fun t=>decide (-89999≤t.1∧t.1≤93599))=true)∧trOk z.ty.length none z.tr=true∧endsOk z=true:=by
 have:=h.right
 unfold zoneRight at this
 simp only [Bool.and_eq_true] at this
 obtain ⟨⟨⟨⟨⟨h1,h2⟩,h3⟩,h4⟩,h5⟩,h6⟩:=this
 refine ⟨h1,h2,fun he=>?_,h4,h5,h6⟩
 rw [he] at h3
 simpa using h3
theorem ZR.one {z:Zn} (h:ZR z):1≤z.ty.length:=by
 have:=h.all.1
 unfold countOk nin at this
 simp only [Bool.and_eq_true,decide_eq_true_eq] at this
 omega
theorem ZR.st {z:Zn} (h:ZR z):Srt z.tr:=srt_tr h.all.2.2.2.2.1
theorem ZR.sl {z:Zn} (h:ZR z):Srt (leapsR z.lp):=srt_leaps (srt_rec h.all.2.1)
theorem zPosix (z:Zn) (h:ZR z) (a:Int) {K:Int→Prop} (hk:K (posixR z a)):Xq40 (tupZ z) a K:=by
 show Xq40 (TV z.ty,RV z.tr,RV z.lp,S z.ft,z.v,()) a K
 unfold Xq40 Yq40
 exact sSum z.lp h.sl (by have:=h.lp; omega) a hk
theorem headD_at {α:Type} (l:List α) (d:α) (h:0 < l.length):l.headD d=l[0]:=by
 cases l with
 | nil=>simp at h
 | cons x r=>rfl
abbrev tupT (t:Ty):Int×Bool×ByteArray×Unit:=(t.1,t.2.1,S t.2.2,())
theorem w64_rng (n:Int):-9223372036854775808≤w64 n∧w64 n≤9223372036854775807:=by
 simp only [w64,IntKind.wrap,IntKind.bits,IntKind.signed]
 try simp
 try omega
theorem zFoot (f:Ft) (p:Int) (hp:-9223372036854775808≤p∧p≤9223372036854775807) (hf:f.ok=true) {K} (h:K (tupT (f.look p))):Xq3f (tupFt f) p K:=by
 obtain ⟨o1,o2,_⟩:=ok_so hf
 refine sfootLookup f p hp ⟨by omega,by omega⟩ ?_
 unfold Ft.look at h
 by_cases e:f.sum p
 ·rw [if_pos e] at h ⊢; exact h
 ·rw [if_neg e] at h ⊢; exact h
theorem zLookup (z:Zn) (h:ZR z) (a:Int) {K} (hk:K (tupT (lookZ z a))):Xq3a (tupZ z) a K:=by
 unfold Xq3a Yq3a
 refine zIndex z h.toZI h.st a ?_
 have hle:=fl_le (fun c:Rec=>decide (c.1 > a)) z.tr
 have htr:=h.tr
 have h1:=h.one
 unfold lookZ at hk
 have hn:indexN z a=Pl.fl (fun c:Rec=>decide (c.1 > a)) z.tr:=rfl
 rw [← hn] at hle
 generalize indexN z a=m at *
 have e1:w64 ((m:Int) - 1+1)=(m:Int):=by rw [w64_in (by omega) (by omega)]; omega
 simp only [tupZ_eq,S_nil,TV_len,RV_len,e1]
 have found:¬ (z.ft≠[]∧m=z.tr.length)→(if decide ((m:Int) - 1 < 0)=true then
   (if (0:Int)≤0∧0 < (z.ty.length:Int) then
   (Eng.asInt IntKind.i64 (Eng.getC (TV z.ty) (0:Nat) (0:Nat)) False fun n7 =>
   (Eng.asBool (Eng.getC (TV z.ty) (0:Nat) (1:Nat)) False fun b8 =>
   (Eng.asStr (Eng.getC (TV z.ty) (0:Nat) (2:Nat)) False fun t9=>K (n7,b8,t9,())))) else False)
   else
   (if 0≤(m:Int) - 1∧(m:Int) - 1 < (z.tr.length:Int) then
   (Eng.asInt IntKind.i64 (Eng.getC (RV z.tr) (Int.toNat ((m:Int) - 1)) (1:Nat)) False fun n10 =>
   (if 0≤n10∧n10 < (z.ty.length:Int) then
   (Eng.asInt IntKind.i64 (Eng.getC (TV z.ty) (Int.toNat n10) (0:Nat)) False fun n11 =>
   (Eng.asBool (Eng.getC (TV z.ty) (Int.toNat n10) (1:Nat)) False fun b12 =>
   (Eng.asStr (Eng.getC (TV z.ty) (Int.toNat n10) (2:Nat)) False fun t13=>K (n11,b12,t13,()))))
   else False)) else False)):=fun hno=>by
  rw [if_neg hno] at hk
  by_cases hm:m=0
  ·subst hm
   rw [if_pos (by simp),if_pos (by omega)]
   refine asT1 (by omega) (asT2 (by omega) (asT3 (by omega) ?_))
   have:=headD_at z.ty (0,false,[]) (by omega)
   simp only [List.take_zero,List.getLast?_nil] at hk
   rw [this] at hk
   exact hk
  ·rw [if_neg (by simp; omega),if_pos (by omega)]
   have e2:Int.toNat ((m:Int) - 1)=m - 1:=by omega
   rw [e2]
   refine asR2 (by omega) ?_
   obtain ⟨_,q1,q2⟩:=(trOk_all _ _ _ h.all.2.2.2.2.1).1 (m - 1) (by omega)
   have hl:(z.tr.take m).getLast? = some (z.tr[m - 1]'(by omega)):=by
    rw [List.getLast?_eq_getElem?,List.length_take,Nat.min_eq_left hle,List.getElem?_take,if_pos (by omega),List.getElem?_eq_getElem (by omega)]
   rw [hl] at hk
   simp only at hk
   rw [if_pos ⟨q1,q2⟩]
   refine asT1 (by omega) (asT2 (by omega) (asT3 (by omega) ?_))
   rw [getD_at z.ty _ _ (by omega)] at hk
   exact hk
 cases e:z.ft.isEmpty
 ·have hne:z.ft≠[]:=by
   intro hh; rw [hh] at e; cases e
  rw [if_pos (show (!false)=true from rfl)]
  by_cases hm:m=z.tr.length
  ·rw [if_pos (by simp [hm])]
   rw [if_pos ⟨hne,hm⟩] at hk
   have hp:(Ft.parse z.ft).2=true:=by
    have:=h.all.2.2.2.2.2
    unfold endsOk at this
    rw [e] at this
    simp only [Bool.false_or,Bool.and_eq_true] at this
    exact this.1
   refine sfootParse z.ft (by have:=h.ft; omega) ?_
   refine zPosix z h a ?_
   exact zFoot _ _ (w64_rng _) (parse_ok _ hp) hk
  ·rw [if_neg (by simp; omega)]
   exact found fun hh=>hm hh.2
 ·have hne:z.ft=[]:=by
   cases hz:z.ft with
   | nil=>rfl
   | cons x r=>rw [hz] at e; cases e
  rw [if_neg (by simp)]
  exact found fun hh=>hh.1 hne
end Go.Proofs.YtbnpclndiichcaaGreatDoor
end
section
set_option linter.unusedVariables false
set_option linter.unusedSimpArgs false
namespace Go.Proofs.YtbnpclndiichcaaGreatDoor
open Go Go.Proofs.YtbnpclndiichcaaGreatDoor.Eng Go.Proofs.YtbnpclndiichcaaGreatDoor.Pl
set_option maxRecDepth 100000
set_option maxHeartbeats 2000000
theorem sFew (z:Zn) (hl:z.ty.length≤9223372036854775807) {K:Bool→Prop} (h1:(z.ty.length≤100∧z.tr.length≤300∧z.lp.length≤300∧z.ft.length≤200∧(∀ t∈z.ty,t.2.2.length≤100))→K true) (h2:K false):Xq26 (tupZ z) K:=by
 show Xq26 (TV z.ty,RV z.tr,RV z.lp,S z.ft,z.v,()) K
 unfold Xq26 Yq26
 have fin:(∀ i (h:i < z.ty.length),i < 100→((z.ty[i]).2.2).length≤100)→(if decide ((z.ty.length:Int)≤100)=true then (if decide ((z.tr.length:Int)≤300)=true then (if decide ((z.lp.length:Int)≤300)=true then K (decide (((S z.ft).size:Int)≤200)) else K false) else K false) else K false):=fun hall=>by
  rw [S_size]
  by_cases c1:(z.ty.length:Int)≤100
  ·rw [if_pos (decide_eq_true c1)]
   by_cases c2:(z.tr.length:Int)≤300
   ·rw [if_pos (decide_eq_true c2)]
    by_cases c3:(z.lp.length:Int)≤300
    ·rw [if_pos (decide_eq_true c3)]
     by_cases c4:(z.ft.length:Int)≤200
     ·rw [decide_eq_true c4]
      refine h1 ⟨by omega,by omega,by omega,by omega,fun t ht=>?_⟩
      obtain ⟨i,hi,rfl⟩:=List.getElem_of_mem ht
      exact hall i hi (by omega)
     ·rw [decide_eq_false c4]; exact h2
    ·rw [if_neg (by simpa using c3)]; exact h2
   ·rw [if_neg (by simpa using c2)]; exact h2
  ·rw [if_neg (by simpa using c1)]; exact h2
 refine lp_ind (fun x=>101 - x.1.2.2.1.toNat) (fun x=>∃ j:Nat,j≤100∧j≤z.ty.length∧x=(((),false,(j:Int),()),(TV z.ty,RV z.tr,RV z.lp,S z.ft,z.v,()),())∧(∀ i (h:i < z.ty.length),i < j→((z.ty[i]).2.2).length≤100)) ?_ ⟨0,by omega,by omega,rfl,fun i h hi=>by omega⟩
 rintro x ⟨j,hj,hj2,rfl,hall⟩ k hk
 unfold Lq26_0
 dsimp only
 rw [TV_len,RV_len,RV_len]
 by_cases c1:(j:Int) < (z.ty.length:Int)
 ·rw [if_pos (decide_eq_true c1)]
  by_cases c2:(j:Int) < 100
  ·rw [if_pos (decide_eq_true c2),if_pos (by omega),Int.toNat_natCast]
   have hj':j < z.ty.length:=by omega
   refine asT3 hj' ?_
   rw [S_size]
   by_cases c3:(((z.ty[j]).2.2).length:Int) > 100
   ·rw [if_pos (decide_eq_true c3)]; exact h2
   ·rw [if_neg (by simpa using c3)]
    have e1:w64 ((j:Int)+1)=((j+1:Nat):Int):=by rw [w64_in (by omega) (by omega)]; omega
    rw [e1]
    refine hk _ ⟨j+1,by omega,by omega,rfl,fun i hi hij=>?_⟩ ?_
    ·by_cases ei:i=j
     ·subst ei; omega
     ·exact hall i hi (by omega)
    ·show 101 - ((j+1:Nat):Int).toNat < 101 - ((j:Nat):Int).toNat
     omega
  ·rw [if_neg (by simpa using c2)]
   exact fin fun i hi h100=>hall i hi (by omega)
 ·rw [if_neg (by simpa using c1)]
  exact fin fun i hi h100=>hall i hi (by omega)
end Go.Proofs.YtbnpclndiichcaaGreatDoor
end
section
set_option linter.unusedVariables false
set_option linter.unusedSimpArgs false
namespace Go.Proofs.YtbnpclndiichcaaGreatDoor
open Go Go.Proofs.YtbnpclndiichcaaGreatDoor.Eng Go.Proofs.YtbnpclndiichcaaGreatDoor.Pl
set_option maxRecDepth 100000
set_option maxHeartbeats 2000000
structure ZG (z:Zn):Prop where
 ri:recI z.lp
 ti:recI z.tr
 v:i64r z.v
 tl:z.ty.length≤9223372036854775807
theorem ZG.zi {z:Zn} (h:ZG z) (hf:z.ty.length≤100∧z.tr.length≤300∧z.lp.length≤300∧z.ft.length≤200∧(∀ t∈z.ty,t.2.2.length≤100)):ZI z :=
 ⟨hf.1,by omega,hf.2.2.1,by omega,hf.2.2.2.2,h.ri,h.ti,h.v⟩
end Go.Proofs.YtbnpclndiichcaaGreatDoor
end
section
set_option linter.unusedVariables false
set_option linter.unusedSimpArgs false
namespace Go.Proofs.YtbnpclndiichcaaGreatDoor
open Go Go.Proofs.YtbnpclndiichcaaGreatDoor.Eng Go.Proofs.YtbnpclndiichcaaGreatDoor.Pl
set_option maxRecDepth 100000
set_option maxHeartbeats 2000000
def prevR (b:Rec) (l:List Rec) (i:Nat):Rec:=if i=0 then b else l.getD (i - 1) (0,0)
theorem recOk_at:∀ (l:List Rec) (k:Nat) (b:Rec),recOk k b l=true→∀ (i:Nat) (h:i < l.length),
  ((l[i]).2 - (prevR b l i).2=0∧i+1=l.length)∨(((l[i]).2 - (prevR b l i).2=1∨(l[i]).2 - (prevR b l i).2=-1)∧(k+i=0∨(l[i]).1 - (prevR b l i).1≥2419199))
 | [],k,b,h,i,hi=>by simp at hi
 | c :: r,k,b,h,i,hi=>by
  obtain ⟨⟨h1,h2,h3,h4⟩,h5⟩:=(recOk_cons k b c r).1 h
  cases i with
  | zero =>
   simp only [prevR,if_true,List.getElem_cons_zero,List.length_cons]
   by_cases e:c.2 - b.2=0∧r=[]
   ·exact .inl ⟨e.1,by rw [e.2]; rfl⟩
   ·refine .inr ⟨?_,?_⟩
    ·rcases h3 with h3 | h3
     ·exact absurd h3 e
     ·exact h3
    ·rcases h4 with h4 | h4 | h4
     ·exact .inl (by omega)
     ·exact absurd h4.1 e
     ·exact .inr h4.2
  | succ i =>
   have ih:=recOk_at r (k+1) c h5 i (by simpa using hi)
   have hp:prevR b (c :: r) (i+1)=prevR c r i:=by
    unfold prevR
    rw [if_neg (by omega)]
    cases i with
    | zero=>rfl
    | succ i=>rfl
   rw [hp]
   simp only [List.getElem_cons_succ,List.length_cons]
   rcases ih with ih | ih
   ·exact .inl ⟨ih.1,by omega⟩
   ·exact .inr ⟨ih.1,ih.2.imp (fun h=>by omega) id⟩
def sm (l:List Rec) (m:Nat):Int:=if m=0 then 0 else (l.getD (m - 1) (0,0)).2
theorem leaps_at {l:List Rec} (h:recRight l=true) (i:Nat) (hi:i < (leapsR l).length) :
  (sm (leapsR l) (i+1) - sm (leapsR l) i=1∨sm (leapsR l) (i+1) - sm (leapsR l) i=-1)∧0≤((leapsR l)[i]).1∧(∀ j (hj:j < (leapsR l).length),i < j→((leapsR l)[i]).1 < ((leapsR l)[j]).1):=by
 have hl:=leapsR_len l
 have hil:i < l.length:=by rw [hl] at hi; split at hi <;> omega
 have get:∀ j (hj:j < (leapsR l).length),(leapsR l)[j]=l[j]'(by rw [hl] at hj; split at hj <;> omega):=fun j hj=>by
  unfold leapsR
  by_cases e:lastExp l=true
  ·simp only [e,if_true,List.getElem_take]
  ·simp only [e,if_false]; rfl
 have getd:∀ j,j < (leapsR l).length→(leapsR l).getD j (0,0)=l.getD j (0,0):=fun j hj=>by
  rw [getD_at _ _ _ hj,get j hj,getD_at l]
 have key:∀ j (hj:j < (leapsR l).length),((l[j]'(by rw [hl] at hj; split at hj <;> omega)).2 - (prevR (-2419199,0) l j).2=1∨(l[j]'(by rw [hl] at hj; split at hj <;> omega)).2 - (prevR (-2419199,0) l j).2=-1)∧(j=0∨(l[j]'(by rw [hl] at hj; split at hj <;> omega)).1 - (prevR (-2419199,0) l j).1≥2419199):=fun j hj=>by
  have hjl:j < l.length:=by rw [hl] at hj; split at hj <;> omega
  rcases recOk_at l 0 (-2419199,0) h j hjl with ⟨e1,e2⟩ | ⟨e1,e2⟩
  ·exfalso
   have:lastExp l=true:=by
    unfold lastExp
    unfold prevR at e1
    by_cases j0:j=0
    ·rw [if_pos j0] at e1
     subst j0
     have g:=getD_at l 0 (0,0) hjl
     rw [g]
     simp only [Bool.or_eq_true,Bool.and_eq_true,decide_eq_true_eq,beq_iff_eq]
     exact .inl ⟨by omega,by simpa using e1⟩
    ·rw [if_neg j0] at e1
     have g:=getD_at l (l.length - 1) (0,0) (by omega)
     have ej:l.length - 1=j:=by omega
     have ej2:l.length - 2=j - 1:=by omega
     simp only [Bool.or_eq_true,Bool.and_eq_true,decide_eq_true_eq,beq_iff_eq]
     refine .inr ⟨by omega,?_⟩
     rw [ej,ej2,getD_at l j _ hjl]; omega
   rw [hl,if_pos this] at hj
   omega
  ·exact ⟨e1,e2.imp (fun h=>by omega) id⟩
 refine ⟨?_,?_,?_⟩
 ·have:=(key i hi).1
  unfold sm
  rw [if_neg (by omega),Nat.add_sub_cancel,getd i hi,getD_at l i _ hil]
  unfold prevR at this
  by_cases i0:i=0
  ·rw [if_pos i0] at this ⊢; exact this
  ·rw [if_neg i0] at this ⊢
   rw [getd (i - 1) (by omega)]; exact this
 ·rw [get i hi]; exact ((recOk_all l 0 _ h).1 i hil).2
 ·intro j hj hij
  have hjl:j < l.length:=by rw [hl] at hj; split at hj <;> omega
  have:=(key j hj).2
  have hs:=srt_rec h i (j - 1) hil (by omega) (by omega)
  unfold prevR at this
  rw [if_neg (show ¬ j=0 by omega),getD_at l (j - 1) _ (by omega)] at this
  rw [get i hi,get j hj]
  rcases this with h0 | h0
  ·omega
  ·omega
theorem sm_bd {l:List Rec} (h:recRight l=true):∀ m,m≤(leapsR l).length→-(m:Int)≤sm (leapsR l) m∧sm (leapsR l) m≤m
 | 0,_=>by simp [sm]
 | m+1,hm=>by
  have ih:=sm_bd h m (by omega)
  have:=(leaps_at h m (by omega)).1
  omega
theorem sumR_sm (l:List Rec) (a:Int):sumR l a=sm (leapsR l) (Pl.fl (fun c:Rec=>decide (c.1 > a)) (leapsR l)):=by
 have hle:=fl_le (fun c:Rec=>decide (c.1 > a)) (leapsR l)
 unfold sumR sm
 generalize Pl.fl (fun c:Rec=>decide (c.1 > a)) (leapsR l)=m at *
 by_cases m0:m=0
 ·subst m0; rfl
 ·rw [if_neg m0]
  have:((leapsR l).take m).getLast? = some ((leapsR l)[m - 1]'(by omega)):=by
   rw [List.getLast?_eq_getElem?,List.length_take,Nat.min_eq_left hle,List.getElem?_take,if_pos (by omega),List.getElem?_eq_getElem (by omega)]
  rw [this,getD_at _ _ _ (by omega)]
theorem sum_next {l:List Rec} (h:recRight l=true) (a:Int) :
  let m':=Pl.fl (fun c:Rec=>decide (c.1≥a)) (leapsR l)
  (∃ hm:m' < (leapsR l).length,((leapsR l)[m']).1=a∧sumR l a=sm (leapsR l) (m'+1)∧sumR l (a - 1)=sm (leapsR l) m')∨((∀ hm:m' < (leapsR l).length,((leapsR l)[m']).1≠a)∧sumR l a=sm (leapsR l) m'∧sumR l (a - 1)=sm (leapsR l) m'):=by
 intro m'
 have hle:=fl_le (fun c:Rec=>decide (c.1≥a)) (leapsR l)
 have hsp:=fl_spec (fun c:Rec=>decide (c.1≥a)) (leapsR l)
 have hm:Pl.fl (fun c:Rec=>decide (c.1≥a)) (leapsR l)=m':=rfl
 rw [hm] at hle hsp
 have e1:Pl.fl (fun c:Rec=>decide (c.1 > a - 1)) (leapsR l)=m':=fl_of _ _ _ hle
  (fun i hi him=>by have:=(hsp i hi).1 him; simp only [decide_eq_false_iff_not] at this ⊢; omega)
  (fun hi=>by have:=(hsp m' hi).2 rfl; simp only [decide_eq_true_eq] at this ⊢; omega)
 rw [sumR_sm l a,sumR_sm l (a - 1),e1]
 by_cases hx:∃ hm:m' < (leapsR l).length,((leapsR l)[m']).1=a
 ·obtain ⟨hlt,he⟩:=hx
  refine .inl ⟨hlt,he,?_,rfl⟩
  have:Pl.fl (fun c:Rec=>decide (c.1 > a)) (leapsR l)=m'+1:=fl_of _ _ _ (by omega)
   (fun i hi him=>by
    simp only [decide_eq_false_iff_not]
    by_cases ei:i=m'
    ·subst ei; omega
    ·have:=(leaps_at h i hi).2.2 m' hlt (by omega); omega)
   (fun hi=>by
    have:=(leaps_at h m' hlt).2.2 (m'+1) hi (by omega)
    simp only [decide_eq_true_eq]; omega)
  rw [this]
 ·refine .inr ⟨fun hlt he=>hx ⟨hlt,he⟩,?_,rfl⟩
  have:Pl.fl (fun c:Rec=>decide (c.1 > a)) (leapsR l)=m':=fl_of _ _ _ hle
   (fun i hi him=>by have:=(hsp i hi).1 him; simp only [decide_eq_false_iff_not] at this ⊢; omega)
   (fun hi=>by
    have:=(hsp m' hi).2 rfl
    have hne:((leapsR l)[m']).1≠a:=fun he=>hx ⟨hi,he⟩
    simp only [decide_eq_true_eq] at this ⊢; omega)
  rw [this]
theorem sSearchT (l:List Rec) (hs:Srt l) (hl:l.length≤100000) (o f:Bool) (a:Int) {K} (h:∀ o f,K (Pl.fl (fun c:Rec=>decide (c.1≥a)) l:Int) a (RV l) o f):Xq2n (l.length:Int) a (RV l) o f K:=by
 unfold Xq2n Yq2n
 refine lp_ind (fun x=>(x.1.2.2.2.1 - x.1.2.2.1).toNat) (fun x=>∃ (i j:Nat) (y:List V×Bool×Bool),Bin (fun c:Rec=>decide (c.1≥a)) l i j∧x=((((),(),(),()),(0:Int),(i:Int),(j:Int),()),(RV l,()),(a,()),y,())) ?_ ⟨0,l.length,_,⟨by omega,by omega,fun t ht h=>by omega,fun t ht h=>by omega⟩,rfl⟩
 rintro x ⟨i,j,y,hb,rfl⟩ k hk
 obtain ⟨b1,b2,_,_⟩:=id hb
 unfold Lq2n_0
 simp only [decide_eq_true_eq]
 by_cases e:i=j
 ·subst e
  rw [if_neg (by omega)]
  have:=h false true
  rw [hb.fl] at this; exact this
 ·rw [if_pos (by omega)]
  simp only [lt]
  rw [half (by omega)]
  have hlt:(i+j) / 2 < l.length:=by omega
  unfold Xq20 Yq20
  rw [RV_len,if_pos (by omega),Int.toNat_natCast]
  refine asR1 hlt ?_
  dsimp only
  have e1:w64 ((((i+j) / 2:Nat):Int)+1)=(((i+j) / 2+1:Nat):Int):=by rw [w64_in (by omega) (by omega)]; omega
  cases hq:decide ((l[(i+j) / 2]).1≥a)
  ·rw [if_pos (show (!false)=true from rfl),e1]
   refine hk _ ⟨(i+j) / 2+1,j,_,hb.low (ge_mono hs a) (by omega) (by omega) hlt hq,rfl⟩ ?_
   show ((j:Int) - (((i+j) / 2+1:Nat):Int)).toNat < ((j:Int) - (i:Int)).toNat
   omega
  ·rw [if_neg (by simp)]
   refine hk _ ⟨i,(i+j) / 2,_,hb.high (ge_mono hs a) (by omega) (by omega) hlt hq,rfl⟩ ?_
   show ((((i+j) / 2:Nat):Int) - (i:Int)).toNat < ((j:Int) - (i:Int)).toNat
   omega
theorem zStep (l:List Rec) (h:recRight l=true) (hl:l.length≤1000) (a:Int) {K:Int→Prop} (hk:K (sumR l a - sumR l (a - 1))):Xq35 (RV l) a K:=by
 unfold Xq35 Yq35
 refine sLeaps l (by omega) ?_
 rw [RV_len]
 have hl2:(leapsR l).length≤1000:=by rw [leapsR_len]; split <;> omega
 refine sSearchT (leapsR l) (srt_leaps (srt_rec h)) (by omega) _ _ _ fun o f=>?_
 have hle:=fl_le (fun c:Rec=>decide (c.1≥a)) (leapsR l)
 have hx:=sum_next h a
 simp only at hx
 generalize Pl.fl (fun c:Rec=>decide (c.1≥a)) (leapsR l)=m at *
 rw [RV_len]
 simp only [beq_iff_eq,bne_iff_ne]
 by_cases em:m=(leapsR l).length
 ·rw [if_pos (by omega)]
  rcases hx with ⟨hm,_⟩ | ⟨_,q1,q2⟩
  ·omega
  ·rw [q1,q2] at hk; simpa using hk
 ·have hm:m < (leapsR l).length:=by omega
  rw [if_neg (by omega),if_pos (by omega),Int.toNat_natCast]
  refine asR1 hm ?_
  rcases hx with ⟨_,he,q1,q2⟩ | ⟨hno,q1,q2⟩
  ·rw [if_neg (by simpa using he)]
   rw [q1,q2] at hk
   have hb1:=sm_bd h m (by omega)
   have hb2:=sm_bd h (m+1) (by omega)
   have hs1:sm (leapsR l) (m+1)=((leapsR l)[m]).2:=by
    unfold sm; rw [if_neg (by omega),Nat.add_sub_cancel,getD_at _ _ _ hm]
   by_cases m0:m=0
   ·rw [if_pos (by omega),if_pos (by omega)]
    subst m0
    refine asR2 (by omega) ?_
    rw [hs1] at hk
    simpa [sm] using hk
   ·rw [if_neg (by omega),if_pos (by omega)]
    refine asR2 hm ?_
    have e1:w64 ((m:Int) - 1)=((m - 1:Nat):Int):=by rw [w64_in (by omega) (by omega)]; omega
    rw [e1,if_pos (by omega),Int.toNat_natCast]
    refine asR2 (by omega) ?_
    have hs0:sm (leapsR l) m=((leapsR l)[m - 1]'(by omega)).2:=by
     unfold sm; rw [if_neg m0,getD_at _ _ _ (by omega)]
    rw [← hs1,← hs0,w64_in (by omega) (by omega)]
    exact hk
  ·rw [if_pos (by simpa using hno hm)]
   rw [q1,q2] at hk; simpa using hk
end Go.Proofs.YtbnpclndiichcaaGreatDoor
end
section
set_option linter.unusedVariables false
set_option linter.unusedSimpArgs false
namespace Go.Proofs.YtbnpclndiichcaaGreatDoor
open Go Go.Proofs.YtbnpclndiichcaaGreatDoor.Eng Go.Proofs.YtbnpclndiichcaaGreatDoor.Pl
set_option maxRecDepth 100000
set_option maxHeartbeats 2000000
theorem kEnd (n:Int) {K} (h:K (endD n)):Xq4v n K:=by
 unfold Xq4v Yq4v
 refine sday n ?_
 unfold endD at h
 by_cases e:-719162≤n∧n≤2932896
 ·rw [if_pos e]
  rw [decide_eq_true e,Bool.true_and] at h
  refine slast _ _ ?_
  obtain ⟨⟨v1,v2,v3,v4,_⟩,_⟩:=num_date e.1 e.2
  rw [if_pos rfl,if_pos ⟨v1,v2,v3,v4⟩]; exact h
 ·rw [if_neg e]
  rw [decide_eq_false e,Bool.false_and] at h
  refine slast _ _ ?_
  rw [if_neg (by simp)]; exact h
theorem kWrong (k:Nat) (l:LR) (ahead:Int) {K} (h:K (wrongL k l ahead)):Xq3q (k:Int) (l.1,l.2.1,l.2.2,()) ahead K:=by
 unfold Xq3q Yq3q
 unfold wrongL at h
 dsimp only
 simp only [decide_eq_true_eq,bne_iff_ne,ne_eq]
 by_cases h1:200≤k
 ·rw [if_pos h1] at h; rw [if_pos (by omega)]; exact h
 rw [if_neg h1] at h; rw [if_neg (by omega)]
 have rest:¬ (l.1 < 730∨2932896≤l.1)→Xq4v l.1 (fun r=>if (!r)=true then K 5 else if ¬ l.2.1=1 then (if ¬ l.2.1=-1 then K 6 else if l.1≤ahead then K 4 else K 0) else if l.1≤ahead then K 4 else K 0):=fun h2=>by
  rw [if_neg h2] at h
  refine kEnd _ ?_
  cases he:endD l.1
  ·rw [if_pos he] at h; exact h
  ·rw [if_neg (by simp [he])] at h
   rw [if_neg (by simp)]
   by_cases s1:l.2.1=1
   ·rw [if_neg (by omega)] at h; rw [if_neg (by omega)]
    by_cases h4:l.1≤ahead
    ·rw [if_pos h4] at h; rw [if_pos h4]; exact h
    ·rw [if_neg h4] at h; rw [if_neg h4]; exact h
   ·rw [if_pos s1]
    by_cases s2:l.2.1=-1
    ·rw [if_neg (by omega)] at h; rw [if_neg (by omega)]
     by_cases h4:l.1≤ahead
     ·rw [if_pos h4] at h; rw [if_pos h4]; exact h
     ·rw [if_neg h4] at h; rw [if_neg h4]; exact h
    ·rw [if_pos ⟨s1,s2⟩] at h; rw [if_pos s2]; exact h
 by_cases h2:l.1 < 730
 ·rw [if_pos (.inl h2)] at h
  rw [if_pos h2,if_pos h2]; exact h
 rw [if_neg h2]
 by_cases h3:l.1≥2932896
 ·rw [if_pos (.inr h3)] at h
  rw [if_pos h3]; exact h
 rw [if_neg h3]
 exact rest (by omega)
theorem kCheck (t:Tb) (hl:t.ls.length≤1000000) {K} (h:K ((checkT t).1:Int) (checkT t).2):Xq46 (TLV t.ls,t.has,t.ex,()) K:=by
 unfold Xq46 Yq46
 rw [TLV_len]
 unfold checkT at h
 refine lp_ind (fun x=>t.ls.length - x.1.2.2.2.2.2.2.1.toNat) (fun x=>∃ (j:Nat) (a:Int),j≤t.ls.length∧729≤a∧a≤2932896∧checkG j a (t.ls.drop j)=checkG 0 729 t.ls ∧
  x=(((),0,0,a,TLV t.ls,(t.ls.length:Int),(j:Int),()),(TLV t.ls,t.has,t.ex,()),())) ?_ ⟨0,729,by omega,by omega,by omega,rfl,rfl⟩
 rintro x ⟨j,a,hj,ha,ha',hc,rfl⟩ k hk
 unfold Lq46_0
 dsimp only
 rw [TLV_len,Int.toNat_natCast]
 by_cases e:j < t.ls.length
 ·rw [if_pos (decide_eq_true (by omega)),if_pos (by omega)]
  refine asL1 e (asL2 e (asL3 e ?_))
  refine kWrong j (t.ls[j]) a ?_
  rw [List.drop_eq_getElem_cons e,checkG] at hc
  by_cases hw:wrongL j t.ls[j] a=0
  ·rw [if_neg (by simp [hw])]
   rw [if_neg (by simp [hw])] at hc
   obtain ⟨_,q1,q2,_⟩:=wrongL_0 hw
   have w1:w64 ((j:Int)+1)=((j+1:Nat):Int):=by rw [w64_in (by omega) (by omega)]; omega
   rw [w1]
   exact hk _ ⟨j+1,_,e,by omega,by omega,hc,rfl⟩ (by show t.ls.length - Int.toNat ((j+1:Nat):Int) < t.ls.length - Int.toNat (j:Int); omega)
  ·rw [if_pos (by simpa using hw)]
   rw [if_pos hw] at hc
   rw [← hc,if_pos hw] at h
   exact h
 ·rw [if_neg (dneg (by omega))]
  have:j=t.ls.length:=by omega
  subst this
  rw [List.drop_length,checkG] at hc
  rw [← hc,if_neg (by simp)] at h
  unfold expB at h
  simp only [lt]
  have w1:w64 (w64 (a+1) * 86400)=(a+1) * 86400:=by rw [w64_in (n:=a+1) (by omega) (by omega),w64_in (by omega) (by omega)]
  rw [w1]
  cases hh:t.has
  ·rw [hh] at h
   rw [if_neg (by simp)]
   rw [if_neg (by simp)] at h
   by_cases h1:t.ex < 0
   ·rw [if_pos (decide_eq_true h1)]
    rw [if_pos (by omega)] at h; exact h
   rw [if_neg (dneg h1)]
   by_cases h2:t.ex > 0
   ·rw [if_pos (decide_eq_true h2)]
    rw [if_pos (by omega)] at h; exact h
   rw [if_neg (dneg h2)]
   rw [if_neg (by omega)] at h; exact h
  ·rw [hh,if_pos rfl] at h
   rw [if_pos rfl]
   generalize (if 63072000 > (a+1) * 86400 then 63072000 else (a+1) * 86400)=M at *
   by_cases h1:t.ex < M
   ·rw [if_pos (decide_eq_true h1)]
    rw [if_pos (.inl h1)] at h; exact h
   rw [if_neg (dneg h1)]
   by_cases h2:t.ex > 253402300799
   ·rw [if_pos (decide_eq_true h2)]
    rw [if_pos (.inr h2)] at h; exact h
   rw [if_neg (dneg h2)]
   rw [if_neg (by omega)] at h; exact h
theorem kRightT (t:Tb) (hl:t.ls.length≤1000000) {K} (h:K (rightT t)):Xq3z (TLV t.ls,t.has,t.ex,()) K:=by
 unfold Xq3z Yq3z
 exact kCheck t hl h
end Go.Proofs.YtbnpclndiichcaaGreatDoor
end
section
set_option linter.unusedVariables false
set_option linter.unusedSimpArgs false
namespace Go.Proofs.YtbnpclndiichcaaGreatDoor
open Go Go.Proofs.YtbnpclndiichcaaGreatDoor.Eng Go.Proofs.YtbnpclndiichcaaGreatDoor.Pl
set_option maxRecDepth 100000
set_option maxHeartbeats 4000000
theorem tlv_snoc (ls:List LR) (a b:Int):TLV ls++[V.agg [V.c (.int .i64 a),V.c (.int .i64 b),V.c (.bool false)]]=TLV (ls++[(a,b,false)]):=by simp [TLV,eLR]
theorem room24 (n:Nat) (h:n≤100000000):roomOk n 24=true:=by
 unfold roomOk; simp only [decide_eq_true_eq]; omega
theorem min00 (n:Int):(if 0 < n then 0 else n)=min n 0:=by split <;> omega
theorem sTable (l:List Rec) (hr:recRight l=true) (hi:recI l) {K:_→Bool→List V→Bool→Bool→Prop}
  (h:∀ o f,K ((),(tabT l).1.has,(tabT l).1.ex,()) (tabT l).2 (TLV (tabT l).1.ls) o f):Xq2z (RV l) K:=by
 unfold Xq2z Yq2z
 have hlen:=recOk_len l hr
 have hb:recB l:=recB_of hr fun c hc=>(hi c hc).1.2
 have hb':recB (leapsR l):=fun c hc=>hb c (leapsR_sub hc)
 have hll:(leapsR l).length≤l.length:=by rw [leapsR_len]; split <;> omega
 refine sLeaps l (by omega) ?_
 rw [RV_len]
 refine lp_ind (fun x=>(leapsR l).length - x.1.2.2.2.2.2.2.2.1.toNat) (fun x=>∃ (j:Nat) (ls:List LR) (s:Int),j≤(leapsR l).length∧ls.length=j∧(-300≤s∧s≤300)∧s=stepsL ls ∧
  tabG 0 (leapsR l)=(tabG s ((leapsR l).drop j)).map (ls++·)∧x=((RV l,(),false,s,(),(),((leapsR l).length:Int),(j:Int),()),((),false,0,()),(RV (leapsR l),false,true),TLV ls,())) ?_
  ⟨0,[],0,by omega,rfl,by omega,rfl,by rw [List.drop_zero]; cases tabG 0 (leapsR l) <;> simp,rfl⟩
 rintro x ⟨j,ls,s,hj,hls,hs,hss,htab,rfl⟩ k hk
 unfold Lq2z_0
 simp only [RV_len,Int.toNat_natCast]
 by_cases e:j < (leapsR l).length
 ·rw [if_pos (decide_eq_true (by omega)),if_pos (by omega)]
  refine asR1 e (asR2 e ?_)
  have hc:=hb' _ (List.getElem_mem e)
  rw [List.drop_eq_getElem_cons e] at htab
  generalize (leapsR l)[j]=c at *
  have e1:w64 (c.2 - s)=c.2 - s:=w64_in (by omega) (by omega)
  simp only [lt,e1,min00]
  have hx:w64 (w64 (c.1 - s) - min (c.2 - s) 0)=tabX s c:=rfl
  rw [hx]
  have hxb:-9223372036854775808≤tabX s c∧tabX s c≤9223372036854775807:=w64_bd _
  refine sdiv _ _ hxb.1 hxb.2 (by decide) (by decide) ?_
  rw [tabG] at htab
  by_cases hm:tabX s c % 86400=0
  ·rw [if_neg (by simp [hm])]
   rw [if_pos hm] at htab
   have e2:w64 (tabX s c / 86400 - 1)=tabX s c / 86400 - 1:=w64_in (by omega) (by omega)
   have e3:w64 ((j:Int)+1)=((j+1:Nat):Int):=by rw [w64_in (by omega) (by omega)]; omega
   rw [if_pos (room24 _ (by rw [TLV_len]; simp; omega)),e2,tlv_snoc,e3]
   refine hk _ ⟨j+1,ls++[(tabX s c / 86400 - 1,c.2 - s,false)],c.2,e,by simp [hls],⟨hc.2.2.1,hc.2.2.2⟩,?_,?_,rfl⟩ ?_
   ·rw [stepsL_app,← hss]; simp [stepsL]; omega
   ·rw [htab,Option.map_map]
    congr 1
    funext y
    simp
   ·show (leapsR l).length - ((j+1:Nat):Int).toNat < (leapsR l).length - ((j:Nat):Int).toNat
    omega
  ·rw [if_pos (by simp [hm])]
   rw [if_neg hm] at htab
   have ht:tabT l=(tb0,false):=by unfold tabT; rw [htab]; rfl
   rw [ht] at h
   exact h true true
 have hj':j=(leapsR l).length:=by omega
 subst hj'
 rw [if_neg (dneg (by omega))]
 rw [List.drop_length,tabG] at htab
 simp only [Option.map_some,List.append_nil] at htab
 have ht:tabT l=if rightT (tabE l ls)=true then (tabE l ls,true) else (tb0,false):=by unfold tabT; rw [htab]
 rw [leapsR_len] at hls ⊢
 have fin:∀ (o f:Bool),Xq3z (TLV ls,(tabE l ls).has,(tabE l ls).ex,()) (fun r=>if (!r)=true then K ((),false,0,()) false [] true true else K ((),(tabE l ls).has,(tabE l ls).ex,()) true (TLV ls) o f):=fun o f=>by
  refine kRightT (tabE l ls) (by show ls.length≤1000000; split at hls <;> omega) ?_
  cases hq:rightT (tabE l ls)
  ·rw [if_pos (by rfl)]
   rw [hq] at ht
   rw [ht] at h
   exact h true true
  ·rw [if_neg (by simp)]
   rw [hq,if_pos rfl] at ht
   rw [ht] at h
   exact h o f
 cases hle:lastExp l
 ·have hE:tabE l ls=⟨ls,false,0⟩:=by unfold tabE; rw [hle]; simp
  rw [hE] at fin
  simp only [Bool.false_eq_true,if_false]
  rw [if_neg (dneg (by omega))]
  have:decide ((l.length:Int) < (l.length:Int))=false:=by simp
  rw [this]
  exact fin true false
 ·have hp:=lastExp_pos hle
  have hE:tabE l ls=⟨ls,true,w64 ((l.getD (l.length - 1) (0,0)).1 - s)⟩:=by unfold tabE; rw [hle,hss]; simp
  rw [hE] at fin
  try simp only [if_true]
  rw [if_pos (decide_eq_true (by omega)),if_pos (by omega)]
  try simp only [Int.toNat_natCast]
  refine asR1 (show l.length - 1 < l.length by omega) ?_
  have:decide (((l.length - 1:Nat):Int) < (l.length:Int))=true:=decide_eq_true (by omega)
  rw [this]
  rw [getD_at _ _ _ (show l.length - 1 < l.length by omega)] at fin
  exact fin true false
theorem sScKnown (l:List Rec) (hi:recI l) (hl:l.length≤100000) {K:Bool→Prop} (h:K (knownR l)):Xq36 (RV l) K:=by
 unfold Xq36 Yq36
 unfold knownR at h
 refine sRecRight l hi hl ?_
 cases hr:recRight l
 ·rw [if_pos (by rfl)]
  rw [hr] at h; exact h
 ·rw [if_neg (by simp)]
  rw [hr,Bool.true_and] at h
  exact sTable l hr hi fun o f=>h
def expV (l:List Rec):Int:=if lastExp l=true then (l.getD (l.length - 1) (0,0)).1 else 0
def pastR (l:List Rec) (a:Int):Bool:=lastExp l && decide (a≥expV l)
theorem sExpV (l:List Rec) (hl:l.length≤100000) {K:Int→Bool→Prop} (h:K (expV l) (lastExp l)):Xq2m (RV l) K:=by
 unfold Xq2m Yq2m
 refine sLeaps l hl ?_
 unfold expV at h
 simp only [RV_len,decide_eq_true_eq,leapsR_len]
 cases e:lastExp l
 ·rw [if_neg (by simp)]
  rw [e] at h; exact h
 ·have:=lastExp_pos e
  rw [if_pos (by simp; omega),if_pos (by simp; omega)]
  simp only [if_true,Int.toNat_natCast]
  refine asR1 (by omega) ?_
  rw [e,if_pos rfl,getD_at _ _ _ (show l.length - 1 < l.length by omega)] at h
  exact h
theorem sPast (l:List Rec) (hl:l.length≤100000) (a:Int) {K:Bool→Prop} (h:K (pastR l a)):Xq2k (RV l) a K:=by
 unfold Xq2k Yq2k
 refine sExpV l hl ?_
 unfold pastR at h
 cases e:lastExp l
 ·rw [if_neg (by simp)]
  rw [e] at h; exact h
 ·rw [if_pos rfl]
  rw [e] at h; exact h
def utcR (l:List Rec) (t:Int):Int×Int×Int :=
 if knownR l=false then (0,0,1) else if t < 0 then (0,0,9) else
 if t+63072000≤9223372036854775807 then (if pastR l (t+63072000)=true then (0,0,10) else if utcD l (t+63072000) > 2932896 then (0,0,9) else (utcD l (t+63072000),utcS l (t+63072000),0))
 else if pastR l 9223372036854775807=true then (0,0,10) else (0,0,9)
theorem known_right {l:List Rec} (h:knownR l=true):recRight l=true∧(tabT l).2=true:=by
 unfold knownR at h; simpa using h
theorem sumR_b (l:List Rec) (hr:recRight l=true) (a:Int):-201≤sumR l a∧sumR l a≤201:=by
 have hlen:=recOk_len l hr
 unfold sumR
 split
 ·omega
 ·rename_i c hc
  have hm:=leapsR_sub (List.mem_of_mem_take (List.mem_of_getLast? hc))
  obtain ⟨i,hi,rfl⟩:=List.getElem_of_mem hm
  have:=recOk_bd l 0 _ hr i hi
  simp only at this
  omega
theorem sUtc (l:List Rec) (hi:recI l) (hl:l.length≤1000) (t:Int) (ht:i64r t) {K:Int→Int→Int→Prop} (h:K (utcR l t).1 (utcR l t).2.1 (utcR l t).2.2):Xq4i (RV l) t K:=by
 unfold Xq4i Yq4i
 unfold i64r at ht
 unfold utcR at h
 refine sadd t 63072000 ht (by decide) ?_
 have tail:knownR l=true→0≤t→t+63072000≤9223372036854775807→(if utcD l (t+63072000) > 2932896 then K 0 0 9 else K (utcD l (t+63072000)) (utcS l (t+63072000)) 0) →
   Xq3h (RV l) (t+63072000) (fun r7=>Xq4w (t+63072000) r7 (fun r8 r9=>Xq4x r8 86400 (fun r10 r11 r12=>Xq35 (RV l) (t+63072000) (fun r13 =>
    (if decide (r13 > 0)=true then (if (!r9)=true then K 0 0 9 else (if decide (r10 > 2932896)=true then K 0 0 9 else K r10 (w64 (r11+1)) 0))
     else (if (!r9)=true then K 0 0 9 else (if decide (r10 > 2932896)=true then K 0 0 9 else K r10 r11 0)))))) ):=by
  intro hk h0 h1 h
  obtain ⟨hr,_⟩:=known_right hk
  have hsb:=sumR_b l hr (t+63072000)
  refine sSum l (srt_leaps (srt_rec hr)) (by omega) _ ?_
  refine ssub _ _ (by unfold i64r; omega) (by unfold i64r; omega) (fun hin=>?_) (fun hno=>?_)
  ·unfold i64r at hin
   refine sdiv _ _ hin.1 hin.2 (by decide) (by decide) ?_
   refine zStep l hr hl _ ?_
   unfold utcD utcS stepR at h
   generalize hp:t+63072000 - sumR l (t+63072000)=p at *
   by_cases hst:sumR l (t+63072000) - sumR l (t+63072000 - 1) > 0
   ·rw [if_pos (decide_eq_true hst),if_neg (by simp)]
    rw [if_pos hst] at h
    by_cases hd:p / 86400 > 2932896
    ·rw [if_pos (decide_eq_true hd)]
     rw [if_pos hd] at h; exact h
    ·rw [if_neg (dneg hd),w64_in (by omega) (by omega)]
     rw [if_neg hd] at h; exact h
   ·rw [if_neg (dneg hst),if_neg (by simp)]
    rw [if_neg hst,Int.add_zero] at h
    by_cases hd:p / 86400 > 2932896
    ·rw [if_pos (decide_eq_true hd)]
     rw [if_pos hd] at h; exact h
    ·rw [if_neg (dneg hd)]
     rw [if_neg hd] at h; exact h
  ·unfold i64r at hno
   refine sdiv _ _ (by decide) (by decide) (by decide) (by decide) ?_
   refine zStep l hr hl _ ?_
   have hd:utcD l (t+63072000) > 2932896:=by unfold utcD; omega
   rw [if_pos hd] at h
   split
   ·rw [if_pos (by simp)]; exact h
   ·rw [if_pos (by simp)]; exact h
 have hadd:-9223372036854775808≤t+63072000:=by omega
 by_cases hf:t+63072000≤9223372036854775807
 ·rw [if_pos ⟨hadd,hf⟩]
  refine sScKnown l hi (by omega) ?_
  cases hk:knownR l
  ·rw [hk,if_pos rfl] at h
   rw [if_pos (by rfl)]; exact h
  rw [hk,if_neg (by simp)] at h
  rw [if_neg (by simp)]
  by_cases h0:t < 0
  ·rw [if_pos h0] at h
   rw [if_pos (decide_eq_true h0)]; exact h
  rw [if_neg h0,if_pos hf] at h
  rw [if_neg (dneg h0),if_pos rfl]
  refine sPast l (by omega) _ ?_
  cases hp:pastR l (t+63072000)
  ·rw [hp,if_neg (by simp)] at h
   rw [if_neg (by simp),if_neg (by simp),if_neg (by simp)]
   refine tail hk (by omega) hf ?_
   by_cases hd:utcD l (t+63072000) > 2932896
   ·rw [if_pos hd] at h ⊢; exact h
   ·rw [if_neg hd] at h ⊢; exact h
  ·rw [hp,if_pos rfl] at h
   rw [if_pos rfl]; exact h
 ·rw [if_neg (by omega)]
  refine sScKnown l hi (by omega) ?_
  cases hk:knownR l
  ·rw [hk,if_pos rfl] at h
   rw [if_pos (by rfl)]; exact h
  rw [hk,if_neg (by simp)] at h
  rw [if_neg (by simp)]
  by_cases h0:t < 0
  ·omega
  rw [if_neg h0,if_neg hf] at h
  rw [if_neg (dneg h0),if_neg (by simp),if_pos (by rfl)]
  refine sPast l (by omega) _ ?_
  cases hp:pastR l 9223372036854775807
  ·rw [hp,if_neg (by simp)] at h
   rw [if_neg (by simp),if_pos (by rfl)]; exact h
  ·rw [hp,if_pos rfl] at h
   rw [if_pos rfl]; exact h
end Go.Proofs.YtbnpclndiichcaaGreatDoor
end
section
set_option linter.unusedVariables false
set_option linter.unusedSimpArgs false
namespace Go.Proofs.YtbnpclndiichcaaGreatDoor
open Go Go.Proofs.YtbnpclndiichcaaGreatDoor.Eng Go.Proofs.YtbnpclndiichcaaGreatDoor.Pl
set_option maxRecDepth 100000
set_option maxHeartbeats 4000000
def fndD (ls:List LR) (d:Int):Bool:=decide (cntD ls d < ls.length) && (ls.getD (cntD ls d) (-1,0,false)).1 == d
theorem half_nat (i j:Nat) (h:i+j≤1000000):Int.fdiv (wu64 (w64 ((i:Int)+(j:Int)))) 2=(((i+j) / 2:Nat):Int):=by
 rw [w64_in (by omega) (by omega)]
 have:wu64 ((i:Int)+(j:Int))=(i:Int)+(j:Int):=by
  simp only [wu64,IntKind.wrap,IntKind.bits,IntKind.signed]
  simp
  omega
 rw [this,Int.fdiv_eq_ediv_of_nonneg _ (by decide)]; omega
theorem sBin {t:Tb} (ht:TU t) (d:Int) (hd:-3000000≤d∧d≤3000000) {K:Int→Bool→Prop} (h:K (cntD t.ls d:Int) (fndD t.ls d)):Xq00 (TLV t.ls) d K:=by
 unfold Xq00 Yq00
 have hlen:=ht.len
 obtain ⟨c1,c2⟩:=cnt_spec ht d
 refine lp_ind (fun x=>(x.1.2.2.2.2.2.2.2.1 - x.1.2.2.2.2.2.2.1).toNat) (fun x=>∃ (i j:Nat),i≤cntD t.ls d∧cntD t.ls d≤j∧j≤t.ls.length ∧
  x=((TLV t.ls,d,((),()),0,false,(t.ls.length:Int),(i:Int),(j:Int),()),())) ?_ ⟨0,t.ls.length,by omega,c1,by omega,by rw [TLV_len]; rfl⟩
 rintro x ⟨i,j,h1,h2,h3,rfl⟩ k hk
 unfold Lq00_0 Xq2v Yq2v
 simp only [lt,half_nat i j (by omega),TLV_len]
 have hm:w64 (((i+j) / 2:Nat):Int)=(((i+j) / 2:Nat):Int):=w64_in (by omega) (by omega)
 rw [hm]
 by_cases e:i < j
 ·have hlt:(i+j) / 2 < t.ls.length:=by omega
  have hday:=ht.day hlt
  rw [if_pos (decide_eq_true (by omega)),if_pos (by omega)]
  simp only [Int.toNat_natCast]
  refine asL1 hlt (asL2 hlt (asL3 hlt ?_))
  rw [w64_in (by omega) (by omega)]
  have hc:=c2 _ hlt
  by_cases e2:(t.ls[(i+j) / 2]).1 < d
  ·rw [if_pos (decide_eq_true (by omega)),w64_in (by omega) (by omega)]
   exact hk _ ⟨(i+j) / 2+1,j,by omega,h2,h3,by rw [show (((i+j) / 2:Nat):Int)+1=(((i+j) / 2+1:Nat):Int) by omega]⟩ (by dsimp only; omega)
  ·rw [if_neg (dneg (by omega))]
   exact hk _ ⟨i,(i+j) / 2,h1,by omega,by omega,rfl⟩ (by dsimp only; omega)
 ·have ei:i=cntD t.ls d:=by omega
  rw [if_neg (dneg (by omega))]
  unfold fndD at h
  rw [← ei] at h
  by_cases e3:i < t.ls.length
  ·have hday:=ht.day e3
   rw [if_pos (decide_eq_true (by omega)),if_pos (by omega)]
   simp only [Int.toNat_natCast]
   refine asL1 e3 (asL2 e3 (asL3 e3 ?_))
   rw [w64_in (by omega) (by omega)]
   rw [decide_eq_true e3,List.getD,List.getElem?_eq_getElem e3,Option.getD_some,Bool.true_and] at h
   have:((t.ls[i]).1 - d == 0)=((t.ls[i]).1 == d):=by rw [Bool.eq_iff_iff,beq_iff_eq,beq_iff_eq]; omega
   rw [this]; exact h
  ·rw [if_neg (dneg (by omega))]
   rw [decide_eq_false e3] at h; exact h
theorem sScStep (l:List Rec) (hk:knownR l=true) (hi:recI l) (d:Int) (hd:-3000000≤d∧d≤3000000) {K:Int→Prop} (h:K (stepD (tabT l).1.ls d)):Xq45 (RV l) d K:=by
 unfold Xq45 Yq45
 obtain ⟨hr,ht⟩:=known_right hk
 obtain ⟨tu,_⟩:=tab_rec (recB_of hr fun c hc=>(hi c hc).1.2) ht
 refine sTable l hr hi fun o f=>?_
 refine sBin tu d hd ?_
 obtain ⟨c1,c2⟩:=cnt_spec tu d
 unfold fndD
 unfold stepD at h
 generalize (tabT l).1.ls=ls at *
 by_cases e:cntD ls d < ls.length
 ·rw [List.getD,List.getElem?_eq_getElem e,Option.getD_some] at h ⊢
  rw [decide_eq_true e,Bool.true_and]
  by_cases e2:(ls[cntD ls d]).1=d
  ·rw [if_pos e2] at h
   rw [if_neg (by simp [e2]),TLV_len,if_pos (by omega)]
   simp only [Int.toNat_natCast]
   exact asL2 e h
  ·rw [if_neg e2] at h
   rw [if_pos (by simp [e2])]; exact h
 ·rw [List.getD,List.getElem?_eq_none (by omega),Option.getD_none] at h
  rw [decide_eq_false e,if_pos (by simp)]
  split at h <;> exact h
theorem sBegins (l:List Rec) (hk:knownR l=true) (hi:recI l) (d:Int) (hd:-3000000≤d∧d≤3000000) {K:Int→Prop} (h:K (strt (tabT l).1.ls d)):Xq2y (RV l) d K:=by
 unfold Xq2y Yq2y
 obtain ⟨hr,ht⟩:=known_right hk
 obtain ⟨tu,_⟩:=tab_rec (recB_of hr fun c hc=>(hi c hc).1.2) ht
 refine sTable l hr hi fun o f=>?_
 have hlen:=tu.len
 obtain ⟨c1,c2⟩:=cnt_spec tu d
 have hsum:=fun i=>tu.sum i
 have hstp:=fun (i:Nat) (hi:i < (tabT l).1.ls.length)=>tu.stp hi
 unfold strt at h
 generalize (tabT l).1.ls=ls at *
 rw [TLV_len]
 have fin:∀ s:Int,s=sumT ls (cntD ls d)→K (w64 (w64 (d * 86400)+s)):=fun s hs=>by
  have:=hsum (cntD ls d)
  rw [w64_in (n:=d * 86400) (by omega) (by omega),w64_in (by omega) (by omega),hs]; exact h
 by_cases e0:0 < ls.length
 ·rw [if_pos (decide_eq_true (by omega)),if_pos (by omega)]
  refine asL1 e0 ?_
  have h0:=c2 0 e0
  by_cases e1:(ls[0]).1 < d
  ·rw [if_pos (decide_eq_true e1),if_pos (by omega)]
   refine asL2 e0 ?_
   have st0:=hstp 0 e0
   have hs0:(ls[0]).2.1=Pl.stepT ls 0:=by unfold Pl.stepT; rw [List.getD,List.getElem?_eq_getElem e0]; rfl
   have hs1:=sumT_succ e0
   have hz:sumT ls 0=0:=by simp [sumT,stepsL]
   rw [hs0,w64_in (n:=0+Pl.stepT ls 0) (by omega) (by omega)]
   have hpos:1≤cntD ls d:=by have:=h0.2 e1; omega
   refine lp_ind (fun x=>ls.length - x.1.2.2.2.2.1.toNat) (fun x=>∃ (k:Nat),1≤k∧k≤cntD ls d∧x=((RV l,d,0,(),(k:Int),sumT ls k,()),((),(tabT l).1.has,(tabT l).1.ex,()),(TLV ls,o,f),())) ?_ ⟨1,by omega,hpos,by rw [hs1,hz]; rfl⟩
   rintro x ⟨k,hk1,hk2,rfl⟩ kk hkk
   unfold Lq2y_0
   simp only [TLV_len,Int.toNat_natCast,lt]
   by_cases e2:k < ls.length
   ·rw [if_pos (decide_eq_true (by omega)),if_pos (by omega)]
    refine asL1 e2 ?_
    have hc:=c2 k e2
    by_cases e3:(ls[k]).1 < d
    ·rw [if_pos (decide_eq_true e3),if_pos (by omega)]
     refine asL2 e2 ?_
     have st:=hstp k e2
     have hs:=sumT_succ e2
     have hb:=hsum k
     have hsk:(ls[k]).2.1=Pl.stepT ls k:=by unfold Pl.stepT; rw [List.getD,List.getElem?_eq_getElem e2]; rfl
     rw [hsk,w64_in (n:=(k:Int)+1) (by omega) (by omega),w64_in (n:=sumT ls k+Pl.stepT ls k) (by omega) (by omega),← hs]
     exact hkk _ ⟨k+1,by omega,by have:=hc.2 e3; omega,by rfl⟩ (by dsimp only; omega)
    ·rw [if_neg (dneg e3)]
     refine fin _ ?_
     have:k=cntD ls d:=by omega
     rw [this]
   ·rw [if_neg (dneg (by omega))]
    refine fin _ ?_
    have:k=cntD ls d:=by omega
    rw [this]
  ·rw [if_neg (dneg e1)]
   refine fin 0 ?_
   have:cntD ls d=0:=by omega
   rw [this]; simp [sumT,stepsL]
 ·rw [if_neg (dneg (by omega))]
  refine fin 0 ?_
  have:cntD ls d=0:=by omega
  rw [this]; simp [sumT,stepsL]
def lenR (l:List Rec) (d:Int):Int×Int:=if knownR l=false then (0,1) else if d < 730∨2932896 < d then (0,9) else (86400+stepD (tabT l).1.ls d,0)
theorem sScLength (l:List Rec) (hi:recI l) (hl:l.length≤1000) (d:Int) {K:Int→Int→Prop} (h:K (lenR l d).1 (lenR l d).2):Xq2t (RV l) d K:=by
 unfold Xq2t Yq2t
 unfold lenR at h
 refine sScKnown l hi (by omega) ?_
 cases hk:knownR l
 ·rw [hk,if_pos rfl] at h
  rw [if_pos (by rfl)]; exact h
 rw [hk,if_neg (by simp)] at h
 rw [if_neg (by simp)]
 by_cases h1:d < 730
 ·rw [if_pos (.inl h1)] at h
  rw [if_pos (decide_eq_true h1),if_pos (decide_eq_true h1)]; exact h
 rw [if_neg (dneg h1)]
 by_cases h2:2932896 < d
 ·rw [if_pos (.inr h2)] at h
  rw [if_pos (decide_eq_true h2)]; exact h
 rw [if_neg (by omega)] at h
 rw [if_neg (dneg h2)]
 refine sScStep l hk hi d (by omega) ?_
 obtain ⟨hr,ht⟩:=known_right hk
 obtain ⟨tu,_⟩:=tab_rec (recB_of hr fun c hc=>(hi c hc).1.2) ht
 have:=stepD_bd tu d
 rw [w64_in (by omega) (by omega)]; exact h
def taiR (l:List Rec) (d s:Int):Int×Int :=
 if (lenR l d).2≠0 then (0,(lenR l d).2) else if s < 0∨86400 < s then (0,9) else if s≥(lenR l d).1 then (0,11) else
 if pastR l (strt (tabT l).1.ls d+s)=true then (0,10) else (strt (tabT l).1.ls d+s - 63072000,0)
theorem sScTai (l:List Rec) (hi:recI l) (hl:l.length≤1000) (d s:Int) {K:Int→Int→Prop} (h:K (taiR l d s).1 (taiR l d s).2):Xq48 (RV l) d s K:=by
 unfold Xq48 Yq48
 unfold taiR at h
 refine sScLength l hi hl d ?_
 by_cases h0:(lenR l d).2≠0
 ·rw [if_pos h0] at h
  rw [if_pos (by simpa using h0)]; exact h
 rw [if_neg h0] at h
 rw [if_neg (by simpa using h0)]
 have hk:knownR l=true∧730≤d∧d≤2932896:=by
  unfold lenR at h0
  split at h0
  ·simp at h0
  ·split at h0
   ·simp at h0
   ·rename_i a b
    refine ⟨by simpa using a,by omega,by omega⟩
 obtain ⟨hr,ht⟩:=known_right hk.1
 obtain ⟨tu,_⟩:=tab_rec (recB_of hr fun c hc=>(hi c hc).1.2) ht
 by_cases h1:s < 0
 ·rw [if_pos (.inl h1)] at h
  rw [if_pos (decide_eq_true h1),if_pos (decide_eq_true h1)]; exact h
 rw [if_neg (dneg h1)]
 by_cases h2:86400 < s
 ·rw [if_pos (.inr h2)] at h
  rw [if_pos (decide_eq_true h2)]; exact h
 rw [if_neg (by omega)] at h
 rw [if_neg (dneg h2)]
 by_cases h3:s≥(lenR l d).1
 ·rw [if_pos h3] at h
  rw [if_pos (decide_eq_true h3)]; exact h
 rw [if_neg h3] at h
 rw [if_neg (dneg h3)]
 refine sBegins l hk.1 hi d (by omega) ?_
 have hb:strt (tabT l).1.ls d=d * 86400+sumT (tabT l).1.ls (cntD (tabT l).1.ls d):=rfl
 have:=tu.sum (cntD (tabT l).1.ls d)
 rw [w64_in (n:=strt (tabT l).1.ls d+s) (by omega) (by omega)]
 refine sPast l (by omega) _ ?_
 cases hp:pastR l (strt (tabT l).1.ls d+s)
 ·rw [hp,if_neg (by simp)] at h
  rw [if_neg (by simp)]
  simp only [lt]
  rw [w64_in (by omega) (by omega)]; exact h
 ·rw [hp,if_pos rfl] at h
  rw [if_pos rfl]; exact h
def ofP (d s:Int):Int:=d * 86400+min s 86399
theorem sOfP (d s:Int) (hd:-719162≤d∧d≤2932896) (hs:0≤s∧s≤86400) {K:Int→Bool→Prop} (h:K (ofP d s) true):Xq4t d s K:=by
 unfold Xq4t Yq4t
 rw [if_neg (dneg (by omega)),if_neg (dneg (by omega)),if_neg (dneg (by omega)),if_neg (dneg (by omega))]
 simp only [lt]
 unfold ofP at h
 have:(if 86399 < s then 86399 else s)=min s 86399:=by split <;> omega
 rw [this,w64_in (n:=d * 86400) (by omega) (by omega),w64_in (by omega) (by omega)]; exact h
def fromR (l:List Rec) (t:Int):Int×Int:=if (utcR l t).2.2=0 then (ofP (utcR l t).1 (utcR l t).2.1,0) else (0,(utcR l t).2.2)
theorem utcR_ok {l:List Rec} {t:Int} (h:(utcR l t).2.2=0):knownR l=true∧0≤t∧pastR l (t+63072000)=false∧utcR l t=(utcD l (t+63072000),utcS l (t+63072000),0)∧utcD l (t+63072000)≤2932896:=by
 unfold utcR at h ⊢
 by_cases h1:knownR l=false
 ·rw [if_pos h1] at h; simp at h
 rw [if_neg h1] at h ⊢
 by_cases h2:t < 0
 ·rw [if_pos h2] at h; simp at h
 rw [if_neg h2] at h ⊢
 by_cases h3:t+63072000≤9223372036854775807
 ·rw [if_pos h3] at h ⊢
  by_cases h4:pastR l (t+63072000)=true
  ·rw [if_pos h4] at h; simp at h
  rw [if_neg h4] at h ⊢
  by_cases h5:utcD l (t+63072000) > 2932896
  ·rw [if_pos h5] at h; simp at h
  rw [if_neg h5]
  exact ⟨by simpa using h1,by omega,by simpa using h4,rfl,by omega⟩
 ·rw [if_neg h3] at h
  split at h <;> simp at h
theorem utc_bd {l:List Rec} (hi:recI l) {t:Int} (h:(utcR l t).2.2=0):strt (tabT l).1.ls (utcR l t).1+(utcR l t).2.1=t+63072000∧730≤(utcR l t).1∧(utcR l t).1≤2932896∧0≤(utcR l t).2.1∧(utcR l t).2.1 < 86400+stepD (tabT l).1.ls (utcR l t).1∧TU (tabT l).1:=by
 obtain ⟨hk,h0,h1,h2,h3⟩:=utcR_ok h
 obtain ⟨hr,ht⟩:=known_right hk
 obtain ⟨tu,hl⟩:=tab_rec (recB_of hr fun c hc=>(hi c hc).1.2) ht
 obtain ⟨u1,u2,u3,_⟩:=utc_strt tu (t+63072000)
 rw [← hl] at u1 u2 u3
 rw [h2]
 refine ⟨u1,?_,h3,u2,u3,tu⟩
 simp only
 have e7:=strt_730 tu (Int.le_refl 730)
 have h7:63072000≤t+63072000:=by omega
 generalize utcD l (t+63072000)=d at *
 generalize utcS l (t+63072000)=s at *
 have hs:=strt_succ tu d
 by_cases q:d < 730
 ·have:=strt_lt tu (show d+1≤730 by omega)
  omega
 ·omega
theorem sFrom (l:List Rec) (hi:recI l) (hl:l.length≤1000) (t:Int) (ht:i64r t) {K:Int→Int→Prop} (h:K (fromR l t).1 (fromR l t).2):Xq3t (RV l) t K:=by
 unfold Xq3t Yq3t
 refine sUtc l hi hl t ht ?_
 unfold fromR at h
 by_cases e:(utcR l t).2.2=0
 ·rw [if_pos e] at h
  rw [if_pos (by simp [e])]
  obtain ⟨_,u1,u2,u3,u4,tu⟩:=utc_bd hi e
  have:=stepD_bd tu (utcR l t).1
  refine sOfP _ _ (by omega) (by omega) ?_
  rw [e]; exact h
 ·rw [if_neg e] at h
  rw [if_neg (by simpa using e)]; exact h
theorem sPDay (p:Int) (hp:i64r p) {K:Int→Int→Prop} (h:K (p / 86400) (p % 86400)):Xq4k p K:=by
 unfold Xq4k Yq4k
 exact sdiv _ _ hp.1 hp.2 (by decide) (by decide) h
def ptaiR (l:List Rec) (p:Int):Int×Int:=taiR l (p / 86400) (p % 86400)
theorem sPTai (l:List Rec) (hi:recI l) (hl:l.length≤1000) (p:Int) (hp:i64r p) {K:Int→Int→Prop} (h:K (ptaiR l p).1 (ptaiR l p).2):Xq4m (RV l) p K:=by
 unfold Xq4m Yq4m
 exact sPDay p hp (sScTai l hi hl _ _ h)
end Go.Proofs.YtbnpclndiichcaaGreatDoor
end
section
set_option linter.unusedVariables false
set_option linter.unusedSimpArgs false
namespace Go.Proofs.YtbnpclndiichcaaGreatDoor
open Go Go.Proofs.YtbnpclndiichcaaGreatDoor.Eng Go.Proofs.YtbnpclndiichcaaGreatDoor.Pl
set_option maxRecDepth 100000
set_option maxHeartbeats 4000000
def tupC (c:Cv):Int×Int×Int×Int×Int×Bool×ByteArray×Unit:=(c.d,c.h,c.m,c.s,c.off,c.dst,S c.ab,())
theorem sLWithin (n a:Int) {K} (h:K (decide (0≤n∧n≤a))):Xq31 n a K:=by
 unfold Xq31 Yq31
 by_cases e:n≥0
 ·rw [if_pos (decide_eq_true e)]
  rw [show decide (0≤n∧n≤a)=decide (n≤a) by rw [Bool.eq_iff_iff,decide_eq_true_eq,decide_eq_true_eq]; omega] at h
  exact h
 ·rw [if_neg (dneg e)]
  rw [show decide (0≤n∧n≤a)=false by rw [decide_eq_false_iff_not]; omega] at h
  exact h
theorem pairP_len (n:Int):(pairP n).length≤42:=by
 unfold pairP
 have:=itoaK_len (n / 10)
 have:=itoaK_len (n % 10)
 rw [List.length_append]; omega
theorem sLPair (n:Int) (h0:0≤n) (h1:n≤1000000) {K} (h:K (S (pairP n))):Xq3u n K:=by
 unfold Xq3u Yq3u
 have l1:=itoaK_len (n / 10)
 have l2:=itoaK_len (n % 10)
 rw [Int.tdiv_eq_ediv_of_nonneg h0,Int.tmod_eq_emod_of_nonneg h0,w64_in (by omega) (by omega)]
 refine sitoa _ (by omega) (by omega) (sitoa _ (by omega) (by omega) ?_)
 rw [S_size,S_size,if_neg (by omega),S_append]
 exact h
theorem distB_len (off:Int):(distB off).length≤130:=by
 unfold distB
 generalize (if off < 0 then -off else off)=a
 have h1:=pairP_len (a / 3600)
 have h2:=pairP_len (a / 60 % 60)
 have h3:(if a % 60≠0 then 58 :: pairP (a % 60) else []).length≤43:=by
  have:=pairP_len (a % 60)
  split
  ·rw [List.length_cons]; omega
  ·simp
 simp only [List.length_cons,List.length_append]
 omega
theorem sLDist (off:Int) (h0:-1000000≤off) (h1:off≤1000000) {K} (h:K (S (distB off))):Xq29 off K:=by
 unfold Xq29 Yq29
 have main:∀ (g:UInt8) (a:Int),0≤a→a≤1000000→K (S (g :: (pairP (a / 3600)++58 :: (pairP (a / 60 % 60)++(if a % 60≠0 then 58 :: pairP (a % 60) else []))))) →
   Xq3u (w64 (Int.tdiv a 3600)) (fun r2=>(if ((ByteArray.size r2+1:Nat):Int) > 9223372036854775807 then False else
    Xq3u (Int.tmod (w64 (Int.tdiv a 60)) 60) (fun r4=>(if ((ByteArray.size (r2++ByteArray.mk #[(58:UInt8)])+ByteArray.size r4:Nat):Int) > 9223372036854775807 then False else
     (if ((1+ByteArray.size (r2++ByteArray.mk #[(58:UInt8)]++r4):Nat):Int) > 9223372036854775807 then False else
     (if (Int.tmod a 60 != 0)=true then Xq3u (Int.tmod a 60) (fun r6=>(if ((1+ByteArray.size r6:Nat):Int) > 9223372036854775807 then False else
      (if ((ByteArray.size (ByteArray.mk #[g]++(r2++ByteArray.mk #[(58:UInt8)]++r4))+ByteArray.size (ByteArray.mk #[(58:UInt8)]++r6):Nat):Int) > 9223372036854775807 then False else
       K (ByteArray.mk #[g]++(r2++ByteArray.mk #[(58:UInt8)]++r4)++(ByteArray.mk #[(58:UInt8)]++r6)))))
     else K (ByteArray.mk #[g]++(r2++ByteArray.mk #[(58:UInt8)]++r4)))))))):=by
  intro g a ha0 ha1 hk
  have e1:w64 (Int.tdiv a 3600)=a / 3600:=by rw [Int.tdiv_eq_ediv_of_nonneg ha0,w64_in (by omega) (by omega)]
  have e2:Int.tmod (w64 (Int.tdiv a 60)) 60=a / 60 % 60:=by rw [Int.tdiv_eq_ediv_of_nonneg ha0,w64_in (by omega) (by omega),Int.tmod_eq_emod_of_nonneg (by omega)]
  have e3:Int.tmod a 60=a % 60:=Int.tmod_eq_emod_of_nonneg ha0
  rw [e1,e2,e3]
  have l1:=pairP_len (a / 3600)
  have l2:=pairP_len (a / 60 % 60)
  have l3:=pairP_len (a % 60)
  refine sLPair _ (by omega) (by omega) ?_
  have s1:S (pairP (a / 3600))++ByteArray.mk #[(58:UInt8)]=S (pairP (a / 3600)++[58]):=S_append _ [58]
  rw [S_size,if_neg (by omega)]
  refine sLPair _ (by omega) (by omega) ?_
  rw [s1,S_append,S_size,S_size,S_size,if_neg (by simp; omega),if_neg (by simp; omega)]
  have s2:ByteArray.mk #[g]++S (pairP (a / 3600)++[58]++pairP (a / 60 % 60))=S ([g]++(pairP (a / 3600)++[58]++pairP (a / 60 % 60))):=S_append [g] _
  rw [s2]
  by_cases hz:a % 60≠0
  ·rw [if_pos hz] at hk
   rw [if_pos (by simpa using hz)]
   refine sLPair _ (by omega) (by omega) ?_
   have s3:ByteArray.mk #[(58:UInt8)]++S (pairP (a % 60))=S ([58]++pairP (a % 60)):=S_append [58] _
   rw [s3,S_append,S_size,S_size,S_size,if_neg (by omega),if_neg (by simp; omega)]
   simpa using hk
  ·rw [if_neg hz] at hk
   rw [if_neg (by simpa using hz)]
   simpa using hk
 unfold distB at h
 by_cases e:off < 0
 ·rw [if_pos (decide_eq_true e)]
  have e1:w64 (0 - off)=-off:=by rw [w64_in (by omega) (by omega)]; omega
  rw [e1]
  rw [if_pos e,if_pos e] at h
  exact main 45 (-off) (by omega) (by omega) h
 ·rw [if_neg (dneg e)]
  rw [if_neg e,if_neg e] at h
  exact main 43 off (by omega) (by omega) h
theorem dayB_eq (n:Int):dayB n=dayL n:=rfl
theorem dayL_len (n:Int):(dayL n).length=10:=rfl
theorem sLText (c:Cv) (hl:c.ab.length≤100000) {K} (h:K (S (ctextL c).1) (ctextL c).2):Xq41 (tupC c) K:=by
 unfold Xq41 Yq41
 have bad:okC c=false→K (S []) false:=fun e=>by
  unfold ctextL at h
  rw [e,if_neg (by simp)] at h; exact h
 have hok:okC c=(decide (-719162≤c.d∧c.d≤2932896) && decide (0≤c.h∧c.h≤23) && decide (0≤c.m∧c.m≤59) && decide (0≤c.s∧c.s≤60) && decide (-89999≤c.off∧c.off≤93599) && abbrL c.ab):=rfl
 dsimp only [tupC]
 refine sStDay _ ?_
 by_cases h1:-719162≤c.d∧c.d≤2932896
 case neg =>
  have hb:=bad (by rw [hok,decide_eq_false h1]; rfl)
  rw [if_neg h1]
  refine sLWithin c.h 23 ?_
  by_cases q2:0≤c.h∧c.h≤23
  ·rw [if_pos (decide_eq_true q2)]
   refine sLWithin c.m 59 ?_
   by_cases q3:0≤c.m∧c.m≤59
   ·rw [if_pos (decide_eq_true q3)]
    refine sLWithin c.s 60 ?_
    rw [if_pos (by rfl)]; exact hb
   ·rw [if_neg (dneg q3),if_pos (by rfl)]; exact hb
  ·rw [if_neg (dneg q2),if_pos (by rfl)]; exact hb
 rw [if_pos h1]
 rw [decide_eq_true h1,Bool.true_and] at hok
 refine sLWithin c.h 23 ?_
 by_cases h2:0≤c.h∧c.h≤23
 case neg =>
  have hb:=bad (by rw [hok,decide_eq_false h2]; rfl)
  rw [if_neg (dneg h2),if_neg (by simp)]; exact hb
 rw [if_pos (decide_eq_true h2)]
 rw [decide_eq_true h2,Bool.true_and] at hok
 refine sLWithin c.m 59 ?_
 by_cases h3:0≤c.m∧c.m≤59
 case neg =>
  have hb:=bad (by rw [hok,decide_eq_false h3]; rfl)
  rw [if_neg (dneg h3),if_neg (by simp)]; exact hb
 rw [if_pos (decide_eq_true h3)]
 rw [decide_eq_true h3,Bool.true_and] at hok
 refine sLWithin c.s 60 ?_
 rw [if_neg (by simp)]
 by_cases h4:0≤c.s∧c.s≤60
 case neg =>
  have hb:=bad (by rw [hok,decide_eq_false h4]; rfl)
  rw [if_pos (by rw [decide_eq_false h4]; rfl)]; exact hb
 rw [if_neg (by rw [decide_eq_true h4]; simp)]
 rw [decide_eq_true h4,Bool.true_and] at hok
 by_cases h5:c.off < -89999
 ·have hb:=bad (by rw [hok,decide_eq_false (by omega)]; rfl)
  exact ifT (decide_eq_true h5) hb
 refine ifF (dneg h5) ?_
 by_cases h6:c.off > 93599
 ·have hb:=bad (by rw [hok,decide_eq_false (by omega)]; rfl)
  exact ifT (decide_eq_true h6) hb
 refine ifF (dneg h6) ?_
 rw [decide_eq_true (by omega),Bool.true_and] at hok
 refine sabbr _ ?_
 cases h7:abbrL c.ab
 ·have hb:=bad (by rw [hok,h7])
  rw [if_pos (by rfl)]; exact hb
 rw [if_neg (by simp)]
 unfold ctextL at h
 rw [hok,h7,if_pos rfl] at h
 clear bad
 have l0:=dayL_len c.d
 have l1:=pairP_len c.h
 have l2:=pairP_len c.m
 have l3:=pairP_len c.s
 have l4:=distB_len c.off
 rw [dayB_eq,S_size,if_neg (by omega)]
 refine sLPair c.h (by omega) (by omega) ?_
 have s1:S (dayL c.d)++ByteArray.mk #[(84:UInt8)]=S (dayL c.d++[84]):=S_append _ [84]
 rw [s1,S_append,S_size,S_size,if_neg (by simp; omega)]
 simp only [lt]
 generalize hA:dayL c.d++[84]++pairP c.h=A
 have hAl:A.length≤60:=by rw [← hA]; simp; omega
 rw [S_size,if_neg (by omega)]
 refine sLPair c.m (by omega) (by omega) ?_
 have s2:S A++ByteArray.mk #[(58:UInt8)]=S (A++[58]):=S_append _ [58]
 rw [s2,S_append,S_size,S_size,if_neg (by simp; omega)]
 generalize hB:A++[58]++pairP c.m=B
 have hBl:B.length≤110:=by rw [← hB]; simp; omega
 rw [S_size,if_neg (by omega)]
 refine sLPair c.s (by omega) (by omega) ?_
 have s3:S B++ByteArray.mk #[(58:UInt8)]=S (B++[58]):=S_append _ [58]
 rw [s3,S_append,S_size,S_size,if_neg (by simp; omega)]
 generalize hC:B++[58]++pairP c.s=C
 have hCl:C.length≤160:=by rw [← hC]; simp; omega
 refine sLDist c.off (by omega) (by omega) ?_
 have s4:S (C++distB c.off)++ByteArray.mk #[(32:UInt8)]=S (C++distB c.off++[32]):=S_append _ [32]
 rw [S_append,s4]
 refine ifF (by rw [S_size,S_size]; omega) (ifF (by rw [S_size]; simp; omega) (ifF (by rw [S_size,S_size]; simp; omega) ?_))
 rw [S_append]
 rw [← hC,← hB,← hA]
 unfold ctextB at h
 simpa using h
def runB:List UInt8→Nat→Bool
 | [],k=>true
 | q :: r,k=>if q=48 then decide (k < 4) && runB r (k+1) else decide (q.toNat < 128) && runB r 0
theorem wi32_u8 (c:UInt8):wi32 (c.toNat:Int)=(c.toNat:Int):=(wi32_in _).2 (by have:=c.toNat_lt; omega)
theorem sLRead (l sh:List UInt8) (hl:l.length≤100000) (hsl:sh.length≤100) (hs:runB sh 0=true) {K:Bool→List V→Bool→Bool→Prop}
  (h:∀ o f,K (readG l sh 0 false []).1 (IV (readG l sh 0 false []).2) o f):Xq3x (S l) (S sh) K:=by
 unfold Xq3x Yq3x
 refine lp_ind (fun x=>l.length - x.2.1.2) (fun x=>∃ (pos:Nat) (n:Int) (had:Bool) (acc:List Int) (k:Nat),pos≤l.length∧pos≤sh.length∧acc.length≤pos∧runB (sh.drop pos) k=true∧k≤4∧0≤n∧n < 10 ^ k ∧
  readG l sh 0 false []=readG (l.drop pos) (sh.drop pos) n had acc∧x=((S l,S sh,(),false,n,had,(),()),(S l,pos),IV acc,())) ?_ ⟨0,0,false,[],0,by omega,by omega,by simp,by rw [List.drop_zero]; exact hs,by omega,by omega,by decide,rfl,rfl⟩
 rintro x ⟨pos,n,had,acc,k,hp1,hp2,hac,hrun,hk4,hn0,hn1,hres,rfl⟩ kk hkk
 have hp10:(10:Int) ^ k≤10000:=by
  rcases (show k=0∨k=1∨k=2∨k=3∨k=4 by omega) with rfl | rfl | rfl | rfl | rfl <;> decide
 rw [hres] at h
 unfold Lq3x_0
 simp only [S_size,IV_len]
 by_cases e:pos < l.length
 ·rw [if_pos e]
  by_cases e1:pos=sh.length
  ·rw [if_pos (decide_eq_true (by omega))]
   rw [List.drop_eq_getElem_cons e,List.drop_eq_nil_of_le (show sh.length≤pos by omega),readG] at h
   exact h true true
  have hb:0≤(pos:Int)∧(pos:Int) < (sh.length:Int):=by omega
  rw [if_neg (dneg (by omega)),if_pos hb]
  have e2:pos < sh.length:=by omega
  have hq:Eng.bAt (S sh) (Int.toNat (pos:Int))=((sh[pos]).toNat:Int):=by
   rw [bAt_S,Int.toNat_natCast,List.getD,List.getElem?_eq_getElem e2,Option.getD_some]
  rw [hq,wi32_u8]
  rw [List.drop_eq_getElem_cons e2,runB] at hrun
  rw [List.drop_eq_getElem_cons e,List.drop_eq_getElem_cons e2,readG] at h hres
  generalize hqq:sh[pos]=q at *
  have hro:∀ m:Nat,m≤100000→roomOk m 8=true:=fun m hm=>by unfold roomOk; simp only [decide_eq_true_eq]; omega
  by_cases c48:q=48
  ·rw [if_pos c48] at hrun
   simp only [Bool.and_eq_true,decide_eq_true_eq] at hrun
   rw [if_neg (by simp [c48])] at h hres
   have b48:((q.toNat:Int) == 48)=true:=by rw [c48]; rfl
   have n48:¬ ((q.toNat:Int) != 48)=true:=by rw [c48]; decide
   rw [if_neg n48,if_pos hb,if_pos b48]
   by_cases hlo:(l[pos]).toNat < 128
   ·simp only [decode_lo l pos e hlo]
    by_cases d1:(((l[pos]).toNat:Nat):Int) < 48
    ·rw [if_pos (decide_eq_true d1)]
     rw [if_neg (by rw [isDig_iff]; omega)] at h
     exact h true true
    rw [if_neg (dneg d1)]
    by_cases d2:(((l[pos]).toNat:Nat):Int) > 57
    ·rw [if_pos (decide_eq_true d2)]
     rw [if_neg (by rw [isDig_iff]; omega)] at h
     exact h true true
    rw [if_neg (dneg d2),if_pos hb,if_neg n48]
    have hd:isDig l[pos]=true:=(isDig_iff _).2 (by omega)
    rw [if_pos hd] at hres
    have e4:wi32 ((((l[pos]).toNat:Nat):Int) - 48)=((l[pos]).toNat:Int) - 48:=(wi32_in _).2 (by omega)
    simp only [lt]
    rw [e4,w64_in (n:=((l[pos]).toNat:Int) - 48) (by omega) (by omega),w64_in (n:=10 * n) (by omega) (by omega),w64_in (by omega) (by omega)]
    refine hkk _ ⟨pos+1,10 * n+(((l[pos]).toNat:Int) - 48),true,acc,k+1,e,e2,by omega,hrun.2,by omega,by omega,?_,hres,rfl⟩ (by dsimp only; omega)
    rw [Int.pow_succ]; omega
   ·obtain ⟨g1,g2⟩:=decode_hi l pos e (by omega)
    rw [if_neg (dneg (by omega)),if_pos (decide_eq_true (by omega))]
    rw [if_neg (by rw [isDig_iff]; omega)] at h
    exact h true true
  ·rw [if_neg c48] at hrun
   simp only [Bool.and_eq_true,decide_eq_true_eq] at hrun
   rw [if_pos c48] at h hres
   have n48:((q.toNat:Int) != 48)=true:=by
    rw [bne_iff_ne]; intro e
    exact c48 (u8_eq (by have:(48:UInt8).toNat=48:=rfl; omega))
   have b48:¬ ((q.toNat:Int) == 48)=true:=by
    rw [beq_iff_eq]; intro e
    exact c48 (u8_eq (by have:(48:UInt8).toNat=48:=rfl; omega))
   rw [if_pos n48,if_pos hb]
   by_cases hlo:(l[pos]).toNat < 128
   ·simp only [decode_lo l pos e hlo]
    by_cases d1:l[pos]=q
    ·have d2:¬ (((((l[pos]).toNat:Nat):Int) != (q.toNat:Int))=true):=by rw [d1]; simp
     rw [if_neg d2,if_pos hb,if_neg b48,if_pos hb,if_pos n48,if_pos (hro _ (by simp; omega))]
     rw [if_neg (by simpa using d1)] at hres
     refine hkk _ ⟨pos+1,0,false,acc++[n],0,e,e2,by simp; omega,hrun.2,by omega,by omega,by decide,hres,by simp [IV]⟩ (by dsimp only; omega)
    ·have d2:(((((l[pos]).toNat:Nat):Int) != (q.toNat:Int))=true):=by
      rw [bne_iff_ne]; intro e
      exact d1 (u8_eq (by omega))
     rw [if_pos d2,if_pos d2]
     rw [if_pos (by simpa using d1)] at h
     exact h true true
   ·obtain ⟨g1,g2⟩:=decode_hi l pos e (by omega)
    have d2:((((Utf8.decode (S l) pos).1:Nat):Int) != (q.toNat:Int))=true:=by
     rw [bne_iff_ne]; omega
    rw [if_pos d2,if_pos d2]
    rw [if_pos (by simp only [ne_eq]; intro e; rw [e] at hlo; omega)] at h
    exact h true true
 ·have hpl:pos=l.length:=by omega
  subst hpl
  have hro:roomOk (acc.length+[V.c (Value.int .i64 n)].length) 8=true:=by unfold roomOk; simp only [decide_eq_true_eq,List.length_singleton]; omega
  rw [if_neg e,if_pos hro]
  rw [List.drop_length,readG] at h
  have hap:IV acc++[V.c (Value.int .i64 n)]=IV (acc++[n]):=by simp [IV]
  rw [hap]
  have hd:(sh.drop l.length).isEmpty=((l.length:Int) == (sh.length:Int)):=by
   rw [Bool.eq_iff_iff,List.isEmpty_iff,beq_iff_eq,List.drop_eq_nil_iff]; omega
  rw [hd] at h
  cases had
  ·rw [if_neg (by simp)]; exact h true false
  ·rw [if_pos rfl]; exact h true false
end Go.Proofs.YtbnpclndiichcaaGreatDoor
end
section
set_option linter.unusedVariables false
set_option linter.unusedSimpArgs false
namespace Go.Proofs.YtbnpclndiichcaaGreatDoor
open Go Go.Proofs.YtbnpclndiichcaaGreatDoor.Eng Go.Proofs.YtbnpclndiichcaaGreatDoor.Pl
set_option maxRecDepth 100000
set_option maxHeartbeats 4000000
def partO (ns:List Int) (j:Nat):Int:=if j=0 then 0 else if j=1 then ns.getD 0 0 * 3600 else if j=2 then ns.getD 0 0 * 3600+ns.getD 1 0 * 60 else ns.getD 0 0 * 3600+ns.getD 1 0 * 60+ns.getD 2 0 * 1
theorem awayTail (g:UInt8) (r sh:List UInt8) (hr:r.length≤1000) (hg:g=43∨g=45) (hsh:sh=shD∨sh=shE) {K:Int→Bool→Prop}
  (h:if (readG r sh 0 false []).1=false then K 0 false else K (sumO (g == 45) (readG r sh 0 false []).2) (distB (sumO (g == 45) (readG r sh 0 false []).2) == g :: r)) :
  Xq3x (S r) (S sh) (fun r1 r2 r3 r4=>(if (!r1)=true then K 0 false else lp (Lq3l_0 Xq29 K) ((S (g :: r),0,r1,(),(r2.length:Int),0,()),(r2,r3,r4),()))):=by
 refine sLRead r sh (by omega) (by rcases hsh with rfl | rfl <;> decide) (by rcases hsh with rfl | rfl <;> decide) fun o f=>?_
 cases hok:(readG r sh 0 false []).1
 ·rw [hok,if_pos rfl] at h
  rw [if_pos (by rfl)]; exact h
 rw [hok,if_neg (by simp)] at h
 rw [if_neg (by simp)]
 have hns:∃ ns:List Int,(readG r sh 0 false []).2=ns∧ns.length≤3∧(∀ n∈ns,0≤n∧n≤99)∧∀ b,sumO b ns=if b=true then -(partO ns ns.length) else partO ns ns.length:=by
  rcases hsh with rfl | rfl
  ·obtain ⟨a,b,e,h1,h2⟩:=read_D hok
   refine ⟨_,e,by simp,?_,fun q=>?_⟩
   ·intro n hn
    simp only [List.mem_cons,List.not_mem_nil,or_false] at hn
    rcases hn with rfl | rfl <;> assumption
   ·simp only [sumO,partO,List.length_cons,List.length_nil,List.getD_cons_zero,List.getD_cons_succ]
    cases q <;> simp <;> omega
  ·obtain ⟨a,b,c,e,h1,h2,h3⟩:=read_E hok
   refine ⟨_,e,by simp,?_,fun q=>?_⟩
   ·intro n hn
    simp only [List.mem_cons,List.not_mem_nil,or_false] at hn
    rcases hn with rfl | rfl | rfl <;> assumption
   ·simp only [sumO,partO,List.length_cons,List.length_nil,List.getD_cons_zero,List.getD_cons_succ]
    cases q <;> simp <;> omega
 obtain ⟨ns,hn,hl3,hb,hsum⟩:=hns
 rw [hn] at h ⊢
 rw [hsum] at h
 have hgd:∀ i,0≤ns.getD i 0∧ns.getD i 0≤99:=fun i=>by
  by_cases e:i < ns.length
  ·rw [List.getD,List.getElem?_eq_getElem e,Option.getD_some]; exact hb _ (List.getElem_mem e)
  ·rw [List.getD,List.getElem?_eq_none (by omega),Option.getD_none]; omega
 have hpb:∀ j,0≤partO ns j∧partO ns j≤400000:=fun j=>by
  have h0:=hgd 0
  have h1:=hgd 1
  have h2:=hgd 2
  unfold partO
  split
  ·omega
  ·split
   ·omega
   ·split <;> omega
 rw [IV_len]
 refine lp_at (fun j=>((S (g :: r),partO ns j,true,(),(ns.length:Int),(j:Int),()),(IV ns,o,f),())) ns.length (by simp [partO]) fun j hj k hk=>?_
 unfold Lq3l_0
 simp only [IV_len,Int.toNat_natCast,S_size]
 by_cases e:j < ns.length
 ·rw [if_pos (decide_eq_true (by omega)),if_pos (by omega)]
  refine asIV e ?_
  rw [if_pos (by omega)]
  have hj3:j=0∨j=1∨j=2:=by omega
  have hg0:ns[j]=ns.getD j 0:=by rw [List.getD,List.getElem?_eq_getElem e,Option.getD_some]
  have step:∀ w:Int,(w=3600∨w=60∨w=1)→partO ns j+ns[j] * w=partO ns (j+1)→(lt (w64 (partO ns j+w64 (ns[j] * w))) fun v9=>k ((S (g :: r),v9,true,(),(ns.length:Int),w64 ((j:Int)+1),()),(IV ns,o,f),())):=fun w hw he=>by
   have hbj:=hb _ (List.getElem_mem e)
   have hp:=hpb j
   have h1:0≤ns[j] * w∧ns[j] * w≤400000:=by
    rcases hw with rfl | rfl | rfl <;> omega
   simp only [lt]
   rw [w64_in (n:=ns[j] * w) (by omega) (by omega),w64_in (n:=partO ns j+ns[j] * w) (by omega) (by omega),he,w64_in (n:=(j:Int)+1) (by omega) (by omega)]
   have:=hk e
   exact this
  rcases hj3 with rfl | rfl | rfl
  ·exact step 3600 (by simp) (by rw [hg0]; simp [partO])
  ·exact step 60 (by simp) (by rw [hg0]; simp [partO])
  ·exact step 1 (by simp) (by rw [hg0]; simp [partO])
 ·have ej:j=ns.length:=by omega
  subst ej
  have hp:=hpb ns.length
  rw [if_neg (dneg (by omega)),if_pos (by simp),bAt0]
  rcases hg with rfl | rfl
  ·rw [if_neg (by decide)]
   rw [if_neg (by decide)] at h
   refine sLDist _ (by omega) (by omega) ?_
   rw [kS_eq]; exact h
  ·rw [if_pos (by decide)]
   rw [if_pos (by decide)] at h
   have e1:w64 (0 - partO ns ns.length)=-(partO ns ns.length):=by rw [w64_in (by omega) (by omega)]; omega
   rw [e1]
   refine sLDist _ (by omega) (by omega) ?_
   rw [kS_eq]; exact h
theorem sLAway (l:List UInt8) (hl:l.length≤1000) {K:Int→Bool→Prop} (h:K (awayL l).1 (awayL l).2):Xq3l (S l) K:=by
 unfold Xq3l Yq3l
 cases l with
 | nil=>rw [kS_nil]; exact ifT rfl h
 | cons g r =>
  have hr:r.length≤1000:=by simp at hl; omega
  have hgp:0 < (g :: r).length:=by simp
  rw [kS_nil,if_neg (by simp)]
  simp only [S_size,bAt0]
  have hb0:(0:Int)≤0∧(0:Int) < ((g :: r).length:Int):=⟨Int.le_refl _,by omega⟩
  rw [if_pos hb0]
  have ne43:∀ c:UInt8,c≠43→((c.toNat:Int) != 43)=true:=fun c hc=>by
   rw [bne_iff_ne]; intro e
   exact hc (u8_eq (by have:(43:UInt8).toNat=43:=rfl; omega))
  have ne45:∀ c:UInt8,c≠45→((c.toNat:Int) != 45)=true:=fun c hc=>by
   rw [bne_iff_ne]; intro e
   exact hc (u8_eq (by have:(45:UInt8).toNat=45:=rfl; omega))
  have hE:ByteArray.mk #[(48:UInt8),(48:UInt8),(58:UInt8),(48:UInt8),(48:UInt8)]++ByteArray.mk #[(58:UInt8),(48:UInt8),(48:UInt8)]=S shE:=S_append shD [58,48,48]
  have hx:ByteArray.extract (S (g :: r)) 1 (Int.toNat ((g :: r).length:Int))=S r:=by
   rw [S_extract,Int.toNat_natCast]; simp
  have hb1:0≤((g :: r).length:Int)∧((g :: r).length:Int)≤((g :: r).length:Int):=by omega
  have hb2:(0:Int)≤1∧1≤((g :: r).length:Int):=⟨by decide,by omega⟩
  rw [hE,hx]
  have hun:¬ (g≠43∧g≠45)→awayL (g :: r)=if (readG r (if 6 < (g :: r).length then shE else shD) 0 false []).1=false then (0,false) else
   (sumO (g == 45) (readG r (if 6 < (g :: r).length then shE else shD) 0 false []).2,distB (sumO (g == 45) (readG r (if 6 < (g :: r).length then shE else shD) 0 false []).2) == g :: r):=fun hn=>by
   unfold awayL
   simp only
   rw [if_neg hn]
  have go:(g=43∨g=45)→(if decide (((g :: r).length:Int) > 6)=true then
    (if 0≤((g :: r).length:Int)∧((g :: r).length:Int)≤((g :: r).length:Int) then (if (0:Int)≤1∧1≤((g :: r).length:Int) then
     Xq3x (S r) (S shE) (fun r1 r2 r3 r4=>(if (!r1)=true then K 0 false else lp (Lq3l_0 Xq29 K) ((S (g :: r),0,r1,(),(r2.length:Int),0,()),(r2,r3,r4),()))) else False) else False)
    else (if 0≤((g :: r).length:Int)∧((g :: r).length:Int)≤((g :: r).length:Int) then (if (0:Int)≤1∧1≤((g :: r).length:Int) then
     Xq3x (S r) (S shD) (fun r1 r2 r3 r4=>(if (!r1)=true then K 0 false else lp (Lq3l_0 Xq29 K) ((S (g :: r),0,r1,(),(r2.length:Int),0,()),(r2,r3,r4),()))) else False) else False)):=fun hg=>by
   rw [hun (by rcases hg with rfl | rfl <;> decide)] at h
   by_cases h6:6 < (g :: r).length
   ·rw [if_pos h6] at h
    rw [if_pos (decide_eq_true (by omega)),if_pos hb1,if_pos hb2]
    refine awayTail g r shE hr hg (.inr rfl) ?_
    split at h
    ·rename_i e; rw [if_pos e]; exact h
    ·rename_i e; rw [if_neg e]; exact h
   ·rw [if_neg h6] at h
    rw [if_neg (dneg (by omega)),if_pos hb1,if_pos hb2]
    refine awayTail g r shD hr hg (.inl rfl) ?_
    split at h
    ·rename_i e; rw [if_pos e]; exact h
    ·rename_i e; rw [if_neg e]; exact h
  by_cases c43:g=43
  ·have:=go (.inl c43)
   rw [if_neg (by rw [c43]; decide)]
   exact this
  rw [if_pos (ne43 g c43),if_pos hb0]
  by_cases c45:g=45
  ·have:=go (.inr c45)
   rw [if_neg (by rw [c45]; decide)]
   exact this
  rw [if_pos (ne45 g c45)]
  have e:awayL (g :: r)=(0,false):=by unfold awayL; simp only; rw [if_pos ⟨c43,c45⟩]
  rw [e] at h; exact h
theorem sLParse (l:List UInt8) (hl:l.length≤1000) {K:_→Bool→Prop} (h:K (tupC (cparseL l).1) (cparseL l).2):Xq34 (S l) K:=by
 unfold Xq34 Yq34
 refine sCut l 32 (by omega) ?_
 unfold cparseL at h
 have hb:(splitL 32 l).1.length≤l.length∧(splitL 32 l).2.1.length≤l.length:=by
  unfold splitL
  split <;> simp <;> omega
 generalize (splitL 32 l).1=b at *
 generalize (splitL 32 l).2.1=nm at *
 generalize (splitL 32 l).2.2=fl at *
 unfold cparseB at h
 simp only [S_size]
 by_cases h0:b.length < 19
 ·rw [if_pos h0] at h
  rw [if_pos (decide_eq_true (by omega))]; exact h
 rw [if_neg h0] at h
 rw [if_neg (dneg (by omega)),if_pos (by omega)]
 have hx:ByteArray.extract (S b) 0 19=S (b.take 19):=by rw [S_extract]; rfl
 have hy:ByteArray.extract (S b) 19 (Int.toNat (b.length:Int))=S (b.drop 19):=by
  rw [S_extract,Int.toNat_natCast,List.take_of_length_le (by simp)]
 rw [hx,hy]
 show Xq3x (S (b.take 19)) (S shC) _
 refine sLRead _ shC (by simp; omega) (by decide) (by decide) fun o f=>?_
 rw [if_pos (by omega),if_pos (by omega)]
 refine sLAway _ (by simp; omega) ?_
 cases h1:(readG (b.take 19) shC 0 false []).1
 ·rw [if_pos (.inl h1)] at h
  rw [if_pos (by rfl)]; exact h
 rw [if_neg (by simp)]
 cases h2:(awayL (b.drop 19)).2
 ·rw [if_pos (.inr h2)] at h
  rw [if_pos (by rfl)]; exact h
 rw [if_neg (by simp)]
 rw [if_neg (by rw [h1,h2]; simp)] at h
 obtain ⟨d1,d2,d3,d4',d5,d6,e0,g1,g2,g3,g4,g5,g6,e1⟩:=read_clock h1
 rw [e1] at h ⊢
 simp only at h
 obtain ⟨w1,w2⟩:=d4_val g1.1 g1.2
 obtain ⟨w3,w4⟩:=dd_val g2.1 g2.2
 obtain ⟨w5,w6⟩:=dd_val g3.1 g3.2
 generalize (valL d1:Int)=y at *
 generalize hm:(valL d2:Int)=m at *
 generalize hd:(valL d3:Int)=d at *
 generalize (valL d4':Int)=hh at *
 generalize (valL d5:Int)=mi at *
 generalize (valL d6:Int)=ss at *
 rw [IV_len]
 simp only [List.length_cons,List.length_nil]
 rw [if_pos (by omega)]
 refine asIV (show 0 < [y,m,d,hh,mi,ss].length by simp) ?_
 rw [if_pos (by omega)]
 refine asIV (show 1 < [y,m,d,hh,mi,ss].length by simp) ?_
 rw [if_pos (by omega)]
 refine asIV (show 2 < [y,m,d,hh,mi,ss].length by simp) ?_
 refine snum _ _ _ (by simp only [List.getElem_cons_succ,List.getElem_cons_zero]; omega) (by simp only [List.getElem_cons_succ,List.getElem_cons_zero]; omega) ?_
 simp only [List.getElem_cons_succ,List.getElem_cons_zero]
 rw [if_pos (by omega)]
 refine asIV (show 3 < [y,m,d,hh,mi,ss].length by simp) ?_
 rw [if_pos (by omega)]
 refine asIV (show 4 < [y,m,d,hh,mi,ss].length by simp) ?_
 rw [if_pos (by omega)]
 refine asIV (show 5 < [y,m,d,hh,mi,ss].length by simp) ?_
 simp only [List.getElem_cons_succ,List.getElem_cons_zero]
 by_cases hok:okD y m d
 ·rw [if_pos hok,decide_eq_true hok]
  refine sLText ⟨num y m d,hh,mi,ss,(awayL (b.drop 19)).1,false,nm⟩ (by simp only; omega) ?_
  rw [if_neg (by simp)]
  unfold ctextL
  by_cases hc:okC ⟨num y m d,hh,mi,ss,(awayL (b.drop 19)).1,false,nm⟩=true
  ·rw [if_pos hc,if_neg (by simp)]
   rw [if_pos ⟨hok,hc⟩] at h
   exact h
  ·rw [if_neg hc,if_pos (by rfl)]
   rw [if_neg fun q=>hc q.2] at h
   exact h
 ·rw [if_neg hok,decide_eq_false hok]
  refine sLText ⟨0,hh,mi,ss,(awayL (b.drop 19)).1,false,nm⟩ (by simp only; omega) ?_
  rw [if_pos (by rfl)]
  rw [if_neg fun q=>hok q.1] at h
  exact h
end Go.Proofs.YtbnpclndiichcaaGreatDoor
end
