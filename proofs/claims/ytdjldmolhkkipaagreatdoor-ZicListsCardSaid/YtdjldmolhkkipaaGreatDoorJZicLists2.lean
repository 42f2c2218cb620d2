/- What the functions come to in plain data, with proofs, and what that answers. -/
import Derived.Test.YtdjldmolhkkipaaGreatDoorJZicLists1
section
set_option linter.unusedVariables false
set_option linter.unusedSimpArgs false
namespace Go.Proofs.YtdjldmolhkkipaaGreatDoor
open Go Go.Proofs.YtdjldmolhkkipaaGreatDoor.Eng Go.Proofs.YtdjldmolhkkipaaGreatDoor.Pl
set_option maxRecDepth 100000
set_option maxHeartbeats 2000000
def monT:ByteArray×ByteArray×ByteArray×ByteArray×ByteArray×ByteArray×ByteArray×ByteArray×ByteArray×ByteArray×ByteArray×ByteArray×Unit:=(ByteArray.mk #[(106:UInt8),(97:UInt8),(110:UInt8),(117:UInt8),(97:UInt8),(114:UInt8),(121:UInt8)],ByteArray.mk #[(102:UInt8),(101:UInt8),(98:UInt8),(114:UInt8),(117:UInt8),(97:UInt8),(114:UInt8),(121:UInt8)],ByteArray.mk #[(109:UInt8),(97:UInt8),(114:UInt8),(99:UInt8),(104:UInt8)],ByteArray.mk #[(97:UInt8),(112:UInt8),(114:UInt8),(105:UInt8),(108:UInt8)],ByteArray.mk #[(109:UInt8),(97:UInt8),(121:UInt8)],ByteArray.mk #[(106:UInt8),(117:UInt8),(110:UInt8),(101:UInt8)],ByteArray.mk #[(106:UInt8),(117:UInt8),(108:UInt8),(121:UInt8)],ByteArray.mk #[(97:UInt8),(117:UInt8),(103:UInt8),(117:UInt8),(115:UInt8),(116:UInt8)],ByteArray.mk #[(115:UInt8),(101:UInt8),(112:UInt8),(116:UInt8),(101:UInt8),(109:UInt8),(98:UInt8),(101:UInt8),(114:UInt8)],ByteArray.mk #[(111:UInt8),(99:UInt8),(116:UInt8),(111:UInt8),(98:UInt8),(101:UInt8),(114:UInt8)],ByteArray.mk #[(110:UInt8),(111:UInt8),(118:UInt8),(101:UInt8),(109:UInt8),(98:UInt8),(101:UInt8),(114:UInt8)],ByteArray.mk #[(100:UInt8),(101:UInt8),(99:UInt8),(101:UInt8),(109:UInt8),(98:UInt8),(101:UInt8),(114:UInt8)],())
theorem month_at (n:Nat) (h:n < 12) {F:Prop} {K:ByteArray→Prop} (hk:K (S (monNames.getD n []))):Eng.asStr ([Eng.V.c (Value.string monT.1),Eng.V.c (Value.string monT.2.1),Eng.V.c (Value.string monT.2.2.1),Eng.V.c (Value.string monT.2.2.2.1),Eng.V.c (Value.string monT.2.2.2.2.1),Eng.V.c (Value.string monT.2.2.2.2.2.1),Eng.V.c (Value.string monT.2.2.2.2.2.2.1),Eng.V.c (Value.string monT.2.2.2.2.2.2.2.1),Eng.V.c (Value.string monT.2.2.2.2.2.2.2.2.1),Eng.V.c (Value.string monT.2.2.2.2.2.2.2.2.2.1),Eng.V.c (Value.string monT.2.2.2.2.2.2.2.2.2.2.1),Eng.V.c (Value.string monT.2.2.2.2.2.2.2.2.2.2.2.1)][n * (1:Nat)]?) F K:=by
 rcases (show n=0∨n=1∨n=2∨n=3∨n=4∨n=5∨n=6∨n=7∨n=8∨n=9∨n=10∨n=11 by omega) with rfl | rfl | rfl | rfl | rfl | rfl | rfl | rfl | rfl | rfl | rfl | rfl <;> exact hk
theorem kNames {K} (h:K monT):Xq1b K:=h
theorem kMonth (s:List UInt8) (hl:s.length≤1000000) {K} (h:K (monthL s).1 (monthL s).2):Xq1k (S s) K:=by
 unfold Xq1k Yq1k
 refine kFold s hl (kNames ?_)
 refine lp_ind (fun x=>12 - x.1.2.2.2.2.1.toNat) (fun x=>∃ n:Nat,n≤12∧monG (foldLw s) n (monNames.drop n)=monthL s∧x=((0,false,S (foldLw s),monT,(n:Int),()),())) ?_ ⟨0,by omega,rfl,rfl⟩
 rintro x ⟨n,hn,hm,rfl⟩ k hk
 unfold Lq1k_0
 dsimp only
 rw [Int.toNat_natCast]
 have len:monNames.length=12:=rfl
 by_cases e:n < 12
 ·rw [if_pos (by simp; omega),if_pos (by omega)]
  refine month_at n e ?_
  have hd:monNames.drop n=monNames.getD n [] :: monNames.drop (n+1):=by
   rw [getD_in _ _ _ (by rw [len]; exact e)]; exact List.drop_eq_getElem_cons _
  rw [hd,monG] at hm
  have w1:w64 ((n:Int)+1)=((n+1:Nat):Int):=by rw [w64_in (by omega) (by omega)]; omega
  have w2:w64 ((n:Int)+1)=(n:Int)+1:=by rw [w64_in (by omega) (by omega)]
  have go:monG (foldLw s) (n+1) (monNames.drop (n+1))=monthL s→k ((0,false,S (foldLw s),monT,w64 ((n:Int)+1),()),()):=fun hg=>by
   rw [w1]
   exact hk _ ⟨n+1,e,hg,rfl⟩ (by show 12 - Int.toNat ((n+1:Nat):Int) < 12 - Int.toNat (n:Int); omega)
  rw [S_size]
  by_cases h2:(foldLw s).length > 2
  ·rw [if_pos (by simp; omega)]
   refine kPre _ _ ?_
   cases hp:preB (monNames.getD n []) (foldLw s)
   ·rw [if_neg (by simp)]
    rw [if_neg (by rw [hp]; simp)] at hm
    exact go hm
   ·rw [if_pos rfl]
    rw [if_pos (by rw [hp]; simp; omega)] at hm
    rw [← hm] at h
    rw [w2]; exact h
  ·rw [if_neg (by simp; omega)]
   rw [if_neg (by simp; omega)] at hm
   exact go hm
 ·rw [if_neg (by simp; omega)]
  have:n=12:=by omega
  subst this
  rw [show monNames.drop 12=[] from rfl,monG] at hm
  rw [← hm] at h; exact h
theorem kSecond (a b c:Int) (ha:0≤a∧a≤99) (hb:0≤b∧b≤99) (hc:0≤c∧c≤99) {K} (h:K (secondL a b c).1 (secondL a b c).2):Xq0q a b c K:=by
 unfold Xq0q Yq0q
 simp only [beq_iff_eq,decide_eq_true_eq,lt]
 have e1:w64 (w64 (a * 60)+b)=a * 60+b:=by rw [w64_in (n:=a * 60) (by omega) (by omega),w64_in (by omega) (by omega)]
 have e2:w64 (w64 ((a * 60+b) * 60)+c)=a * 3600+b * 60+c:=by rw [w64_in (n:=(a * 60+b) * 60) (by omega) (by omega),w64_in (by omega) (by omega)]; omega
 rw [e1,e2]
 have rest:¬ (a=23∧b=59∧c=60)→(if (if c < if b < a then b else a then c else if b < a then b else a) < 0 then K 0 false else if a > 23 then K 0 false else if b > 59 then K 0 false else if c > 59 then K 0 false else K (a * 3600+b * 60+c) true):=fun hno=>by
  unfold secondL at h
  rw [if_neg hno] at h
  rw [if_neg (by split <;> split at * <;> omega)]
  by_cases a1:a > 23
  ·rw [if_neg (by omega)] at h; rw [if_pos a1]; exact h
  rw [if_neg a1]
  by_cases b1:b > 59
  ·rw [if_neg (by omega)] at h; rw [if_pos b1]; exact h
  rw [if_neg b1]
  by_cases c1:c > 59
  ·rw [if_neg (by omega)] at h; rw [if_pos c1]; exact h
  rw [if_neg c1]
  rw [if_pos (by omega)] at h; exact h
 by_cases a1:a=23
 ·rw [if_pos a1]
  by_cases b1:b=59
  ·rw [if_pos b1]
   by_cases c1:c=60
   ·unfold secondL at h
    rw [if_pos ⟨a1,b1,c1⟩] at h
    rw [if_pos c1]; exact h
   ·rw [if_neg c1]; exact rest (by omega)
  ·rw [if_neg b1]; exact rest (by omega)
 ·rw [if_neg a1]; exact rest (by omega)
theorem kClock (s:List UInt8) (hl:s.length≤1000000) {K} (h:K (zclockL s).1 (zclockL s).2):Xq1h (S s) K:=by
 unfold Xq1h Yq1h
 refine kSplitN s 58 3 (by omega) (by omega) hl ?_
 obtain ⟨p1,p2,p3⟩:=splN_len 58 2 s
 unfold zclockL at h
 rw [show 3 - 1=2 from rfl]
 generalize splN 58 2 s=ws at *
 rw [WV_len]
 by_cases e:ws.length=3
 ·obtain ⟨a,b,c,rfl⟩:∃ a b c,ws=[a,b,c]:=by
   match ws,e with
   | [a,b,c],_=>exact ⟨a,b,c,rfl⟩
  dsimp only at h
  rw [if_neg (by simp)]
  have bad:∀ n,n < 3→two ([a,b,c].getD n [])=false→K 0 false:=fun n hn hb=>by
   rw [if_neg] at h
   ·exact h
   ·intro hh
    simp only [Bool.and_eq_true] at hh
    rcases (show n=0∨n=1∨n=2 by omega) with rfl | rfl | rfl
    ·have:=hh.1.1; rw [show [a,b,c].getD 0 []=a from rfl] at hb; rw [hb] at this; cases this
    ·have:=hh.1.2; rw [show [a,b,c].getD 1 []=b from rfl] at hb; rw [hb] at this; cases this
    ·have:=hh.2; rw [show [a,b,c].getD 2 []=c from rfl] at hb; rw [hb] at this; cases this
  refine lp_ind (fun x=>3 - x.1.2.2.2.2.2.1.toNat) (fun x=>∃ n:Nat,n≤3∧(∀ i,i < n→two ([a,b,c].getD i [])=true) ∧
   x=((0,false,(),(),(3:Int),(n:Int),()),agL .i64 3 (fun i=>if i < n then (numL ([a,b,c].getD i [])).1 else 0),(WV [a,b,c],true,false),())) ?_ ⟨0,by omega,by omega,by simp [agL,List.range,List.range.loop]⟩
  rintro x ⟨n,hn,ht,rfl⟩ k hk
  unfold Lq1h_0
  dsimp only
  rw [Int.toNat_natCast,WV_len,agL_len]
  by_cases en:n < 3
  ·rw [if_pos (by simp; omega),if_pos (by simp; omega)]
   refine asWd (by simpa using en) ?_
   have hlen:([a,b,c].getD n []).length≤s.length:=by
    rw [getD_in _ _ _ (by simpa using en)]; exact p3 _ (List.getElem_mem _)
   refine kNumber _ (by omega) ?_
   cases hnum:(numL ([a,b,c].getD n [])).2
   ·rw [if_pos (by simp)]
    exact bad n en (by unfold two; rw [hnum]; rfl)
   rw [if_neg (by simp),S_size]
   by_cases h2:([a,b,c].getD n []).length≤2
   ·rw [if_neg (dneg (by omega)),if_pos (by omega),if_pos (by omega),if_pos (by rw [List.length_singleton]; omega)]
    simp only [lt]
    have w1:w64 ((n:Int)+1)=((n+1:Nat):Int):=by rw [w64_in (by omega) (by omega)]; omega
    rw [show 0+n * 1=n by omega,agL_set en,w1]
    refine hk _ ⟨n+1,en,fun i hi=>?_,?_⟩ (by show 3 - Int.toNat ((n+1:Nat):Int) < 3 - Int.toNat (n:Int); omega)
    ·by_cases ei:i=n
     ·subst ei; unfold two; rw [hnum,decide_eq_true h2]; rfl
     ·exact ht i (by omega)
    ·rw [agL_congr (g:=fun i=>if i < n+1 then (numL ([a,b,c].getD i [])).1 else 0)]
     intro i hi
     unfold updF
     dsimp only
     by_cases ei:i=n
     ·subst ei; rw [if_pos rfl,if_pos (by omega)]
     ·rw [if_neg ei]
      by_cases hin:i < n
      ·rw [if_pos hin,if_pos (by omega)]
      ·rw [if_neg hin,if_neg (by omega)]
   ·rw [if_pos (decide_eq_true (by omega))]
    exact bad n en (by unfold two; rw [decide_eq_false h2,Bool.and_false])
  ·have:n=3:=by omega
   subst this
   rw [if_neg (by simp)]
   refine asI (by omega) (asI (by omega) (asI (by omega) ?_))
   have ta:=ht 0 (by omega)
   have tb:=ht 1 (by omega)
   have tc:=ht 2 (by omega)
   rw [show [a,b,c].getD 0 []=a from rfl] at ta
   rw [show [a,b,c].getD 1 []=b from rfl] at tb
   rw [show [a,b,c].getD 2 []=c from rfl] at tc
   rw [if_pos (by rw [ta,tb,tc]; rfl)] at h
   exact kSecond _ _ _ (two_bd ta) (two_bd tb) (two_bd tc) h
 ·have:∀ {α:Type} (x:α) (f:List UInt8→List UInt8→List UInt8→α),(match ws with | [a,b,c]=>f a b c | _=>x)=x:=fun x f=>by
   match ws,e with
   | [],_=>rfl
   | [_],_=>rfl
   | [_,_],_=>rfl
   | _ :: _ :: _ :: _ :: _,_=>rfl
  rw [if_pos (by simp; omega)]
  match ws,e with
  | [],_=>exact h
  | [_],_=>exact h
  | [_,_],_=>exact h
  | _ :: _ :: _ :: d :: r,_=>simp at p1
theorem kDate (kind:Int) (ws:List (List UInt8)) (h5:5≤ws.length) (hl:∀ w∈ws,w.length≤1000000) {K}
  (h:K (tupRow (dateW kind (ws.getD 1 []) (ws.getD 2 []) (ws.getD 3 []) (ws.getD 4 [])).1) (dateW kind (ws.getD 1 []) (ws.getD 2 []) (ws.getD 3 []) (ws.getD 4 [])).2):Xq1u kind (WV ws) K:=by
 unfold Xq1u Yq1u
 have hw:∀ i,i < ws.length→(ws.getD i []).length≤1000000:=fun i hi=>by rw [getD_in _ _ _ hi]; exact hl _ (List.getElem_mem _)
 simp only [WV_len]
 rw [if_pos (by omega)]
 refine asWd (by omega) (kNumber _ (hw 1 (by omega)) ?_)
 rw [if_pos (by omega)]
 refine asWd (by omega) (kMonth _ (hw 2 (by omega)) ?_)
 rw [if_pos (by omega)]
 refine asWd (by omega) (kNumber _ (hw 3 (by omega)) ?_)
 rw [if_pos (by omega)]
 refine asWd (by omega) (kClock _ (hw 4 (by omega)) ?_)
 unfold dateW tupRow at h
 dsimp only at h
 cases h1:(numL (ws.getD 1 [])).2 <;> cases h2:(monthL (ws.getD 2 [])).2 <;> cases h3:(numL (ws.getD 3 [])).2 <;> rw [h1,h2,h3] at h <;> simpa using h
theorem kRoll (s:List UInt8) (hl:s.length≤1000000) {K} (h:K (rollL s).1 (rollL s).2):Xq1l (S s) K:=by
 unfold Xq1l Yq1l
 refine kFold s hl (kPre [114,111,108,108,105,110,103] _ ?_)
 unfold rollL at h
 cases hp:preB [114,111,108,108,105,110,103] (foldLw s)
 ·rw [if_neg (by simp)]
  rw [if_neg (by rw [hp]; simp)] at h
  exact kPre [115,116,97,116,105,111,110,97,114,121] _ h
 ·rw [if_pos rfl]
  rw [if_pos hp] at h; exact h
theorem kRead (ws:List (List UInt8)) (h1:1≤ws.length) (hl:∀ w∈ws,w.length≤1000000) {K} (h:K (tupRow (readW ws).1) (readW ws).2):Xq1w (WV ws) K:=by
 unfold Xq1w Yq1w
 have hw:∀ i,i < ws.length→(ws.getD i []).length≤1000000:=fun i hi=>by rw [getD_in _ _ _ hi]; exact hl _ (List.getElem_mem _)
 simp only [WV_len]
 rw [if_pos (by omega)]
 refine asWd (by omega) (kFold _ (hw 0 (by omega)) ?_)
 rw [kS_eq _ [108,101,97,112]]
 simp only [lt,kS_eq _ [101,120,112,105,114,101,115],beq_iff_eq]
 unfold readW at h
 have no:¬ (foldLw (ws.getD 0 [])=[108,101,97,112]∧ws.length=7)→(if foldLw (ws.getD 0 [])=[101,120,112,105,114,101,115] then
   (if (ws.length:Int)=5 then Xq1u 1 (WV ws) fun r10 r11=>K r10 r11 else K (0,0,0,0,0,ByteArray.mk #[],false,()) false) else K (0,0,0,0,0,ByteArray.mk #[],false,()) false):=fun hno=>by
  rw [if_neg hno] at h
  by_cases e1:foldLw (ws.getD 0 [])=[101,120,112,105,114,101,115]
  ·rw [if_pos e1]
   by_cases e2:ws.length=5
   ·rw [if_pos ⟨e1,e2⟩] at h
    rw [if_pos (by omega)]
    exact kDate 1 ws (by omega) hl h
   ·rw [if_neg (fun hh=>e2 hh.2)] at h
    rw [if_neg (by omega)]; exact h
  ·rw [if_neg (fun hh=>e1 hh.1)] at h
   rw [if_neg e1]; exact h
 by_cases e1:foldLw (ws.getD 0 [])=[108,101,97,112]
 ·rw [if_pos e1]
  by_cases e2:ws.length=7
  ·rw [if_pos ⟨e1,e2⟩] at h
   rw [if_pos (by omega)]
   refine kDate 0 ws (by omega) hl ?_
   rw [if_pos (by omega)]
   refine asWd (by omega) (kRoll _ (hw 6 (by omega)) ?_)
   rw [if_pos (by omega)]
   refine asWd (by omega) ?_
   simp only [S_toList]
   dsimp only at h
   unfold tupRow at h ⊢
   dsimp only at h ⊢
   generalize ws.getD 5 []=w5 at h ⊢
   by_cases g1:w5=[43]
   ·rw [if_pos (by simp [g1]),if_pos (by simp [g1])]
    cases hd:(dateW 0 (ws.getD 1 []) (ws.getD 2 []) (ws.getD 3 []) (ws.getD 4 [])).2
    ·rw [if_neg (by simp)]
     rw [hd] at h; simpa [g1] using h
    ·rw [if_pos rfl]
     rw [hd] at h; simpa [g1] using h
   ·rw [if_neg (by simp [g1])]
    by_cases g2:w5=[45]
    ·rw [if_pos (by simp [g2])]
     cases hd:(dateW 0 (ws.getD 1 []) (ws.getD 2 []) (ws.getD 3 []) (ws.getD 4 [])).2
     ·rw [if_neg (by simp)]
      rw [hd] at h; simpa [g2] using h
     ·rw [if_pos rfl]
      rw [hd] at h; simpa [g2] using h
    ·rw [if_neg (by simp [g2])]
     rw [show (decide (w5=[43]∨w5=[45]))=false by simp [g1,g2]] at h
     simpa using h
  ·rw [if_neg (by omega)]
   exact no (fun hh=>e2 hh.2)
 ·rw [if_neg e1]
  exact no (fun hh=>e1 hh.1)
end Go.Proofs.YtdjldmolhkkipaaGreatDoor
end
section
set_option linter.unusedVariables false
set_option linter.unusedSimpArgs false
namespace Go.Proofs.YtdjldmolhkkipaaGreatDoor
open Go Go.Proofs.YtdjldmolhkkipaaGreatDoor.Eng Go.Proofs.YtdjldmolhkkipaaGreatDoor.Pl
set_option maxRecDepth 100000
set_option maxHeartbeats 2000000
theorem kSrcLeap (s:Src) (r:Row) (n:Int) (hl:s.ls.length≤100000) {K} (h:∀ o f,K (leapW s r n).2 false 0 s.at' s.til (TLV (leapW s r n).1.ls) o f) :
  Xq0i (tupRow r) n (TLV s.ls) false 0 s.at' s.til K:=by
 unfold Xq0i Yq0i tupRow
 dsimp only
 rw [kS_eq _ [43],kS_eq _ [45]]
 unfold leapW at h
 have minus:¬ (r.sign=[43]∧r.sec=86400)→(if (r.sign == [45])=true then
   (if (r.sec == 86399)=true then Xq1p (TLV s.ls,false,0,()) (n,(-1),r.roll,()) (fun r7 r8 r9 r10 r11=>K r8 r7.2.1 r7.2.2.1 s.at' s.til r9 r10 r11) else K 6 false 0 s.at' s.til (TLV s.ls) false true)
   else K 6 false 0 s.at' s.til (TLV s.ls) false true):=fun hno=>by
  simp only [if_neg hno] at h
  by_cases h1:r.sign=[45]
  ·rw [if_pos (by simp [h1])]
   by_cases h2:r.sec=86399
   ·rw [if_pos (by simp [h2])]
    simp only [if_pos (show r.sign=[45]∧r.sec=86399 from ⟨h1,h2⟩)] at h
    exact kAdd ⟨s.ls,false,0⟩ (n,-1,r.roll) hl h
   ·rw [if_neg (by simp [h2])]
    simp only [if_neg (show ¬ (r.sign=[45]∧r.sec=86399) from fun hh=>h2 hh.2)] at h
    exact h _ _
  ·rw [if_neg (by simp [h1])]
   simp only [if_neg (show ¬ (r.sign=[45]∧r.sec=86399) from fun hh=>h1 hh.1)] at h
   exact h _ _
 by_cases h1:r.sign=[43]
 ·rw [if_pos (by simp [h1])]
  by_cases h2:r.sec=86400
  ·rw [if_pos (by simp [h2])]
   simp only [if_pos (show r.sign=[43]∧r.sec=86400 from ⟨h1,h2⟩)] at h
   exact kAdd ⟨s.ls,false,0⟩ (n,1,r.roll) hl h
  ·rw [if_neg (by simp [h2])]
   exact minus (fun hh=>h2 hh.2)
 ·rw [if_neg (by simp [h1])]
  exact minus (fun hh=>h1 hh.1)
theorem kSrcLine (s:Src) (no:Nat) (ws:List (List UInt8)) (h1:1≤ws.length) (hw:∀ w∈ws,w.length≤1000000) (hl:s.ls.length≤100000) {K}
  (h:∀ o f,K (lineW s no ws).2 false 0 (lineW s no ws).1.at' (lineW s no ws).1.til (TLV (lineW s no ws).1.ls) o f):Xq0e (no:Int) (WV ws) (TLV s.ls) false 0 s.at' s.til K:=by
 unfold Xq0e Yq0e
 refine kRead ws h1 hw ?_
 obtain ⟨b1,b2,b3,b4⟩:=readW_bd ws
 unfold lineW at h
 generalize readW ws=rr at *
 obtain ⟨r,ok⟩:=rr
 dsimp only at h b1 b2 b3 b4
 have e1:(tupRow r).2.1=r.y:=rfl
 have e2:(tupRow r).2.2.1=r.m:=rfl
 have e3:(tupRow r).2.2.2.1=r.d:=rfl
 have e4:(tupRow r).1=r.kind:=rfl
 have e5:(tupRow r).2.2.2.2.1=r.sec:=rfl
 rw [e1,e2,e3,e4,e5]
 refine snum _ _ _ (by omega) b4 ?_
 have hd:dayN r.y r.m r.d=if okD r.y r.m r.d then some (num r.y r.m r.d) else none:=rfl
 rw [hd] at h
 cases ok
 ·rw [if_pos (show (!false)=true from rfl),if_pos (show (!false)=true from rfl)]
  simp only [true_or,if_true] at h
  exact h _ _
 rw [if_neg (by simp)]
 have rest:¬ (r.kind=1∧s.at' > 0)→(if (!decide (okD r.y r.m r.d))=true then K 9 false 0 s.at' s.til (TLV s.ls) false true else
   if (r.kind == 0)=true then Xq0i (tupRow r) (if okD r.y r.m r.d then num r.y r.m r.d else 0) (TLV s.ls) false 0 s.at' s.til (fun r20 r21 r22 r23 r24 r25 r26 r27=>K r20 r21 r22 r23 r24 r25 r26 r27)
   else if (r.sec == 86400)=true then K 9 false 0 s.at' s.til (TLV s.ls) false true
   else K 0 false 0 (no:Int) (w64 (w64 ((if okD r.y r.m r.d then num r.y r.m r.d else 0) * 86400)+r.sec)) (TLV s.ls) false true):=fun hno=>by
  simp only [Bool.true_eq_false,false_or,if_neg hno] at h
  by_cases hk:okD r.y r.m r.d
  ·simp only [if_pos hk] at h ⊢
   rw [if_neg (by simp [hk])]
   by_cases k0:r.kind=0
   ·rw [if_pos (by simp [k0])]
    simp only [if_pos k0] at h
    refine kSrcLeap s r _ hl ?_
    have hat:(leapW s r (num r.y r.m r.d)).1.at'=s.at'∧(leapW s r (num r.y r.m r.d)).1.til=s.til:=by
     unfold leapW; split
     ·exact ⟨rfl,rfl⟩
     ·split <;> exact ⟨rfl,rfl⟩
    rw [hat.1,hat.2] at h
    exact h
   ·rw [if_neg (by simp [k0])]
    simp only [if_neg k0] at h
    by_cases s0:r.sec=86400
    ·rw [if_pos (by simp [s0])]
     simp only [if_pos s0] at h
     exact h _ _
    ·rw [if_neg (by simp [s0])]
     simp only [if_neg s0] at h
     have nr:=num_range (show Vld r.y r.m r.d from hk)
     rw [w64_in (n:=num r.y r.m r.d * 86400) (by omega) (by omega),w64_in (by omega) (by omega)]
     exact h _ _
  ·simp only [if_neg hk] at h
   rw [if_pos (by simp [hk])]
   exact h _ _
 simp only [lt]
 by_cases k1:r.kind=1
 ·rw [if_pos (by simp [k1])]
  by_cases a1:s.at' > 0
  ·rw [if_pos (decide_eq_true a1)]
   simp only [if_pos (show (true=false∨(r.kind=1∧s.at' > 0)) from .inr ⟨k1,a1⟩)] at h
   exact h _ _
  ·rw [if_neg (dneg a1)]
   exact rest (fun hh=>a1 hh.2)
 ·rw [if_neg (by simp [k1])]
  exact rest (fun hh=>k1 hh.1)
theorem bare_len (l:List UInt8):(bareL l).length≤l.length:=by unfold bareL; simp; omega
theorem lineW_at (s:Src) (no:Nat) (w:List (List UInt8)) (h:0≤s.at'∧s.at'≤no):0≤(lineW s no w).1.at'∧(lineW s no w).1.at'≤no:=by
 unfold lineW
 split
 ·exact h
 ·split
  ·exact h
  ·split
   ·unfold leapW
    split
    ·exact h
    ·split <;> exact h
   ·split
    ·exact h
    ·exact ⟨by simp,by simp⟩
theorem kParse (s:List UInt8) (hs:s.length≤90000) {K} (h:∀ o f,K ((),(zparseL s).1.has,(zparseL s).1.ex,()) ((zparseL s).2.1,(zparseL s).2.2,()) (TLV (zparseL s).1.ls) o f):Xq1d (S s) K:=by
 unfold Xq1d Yq1d
 refine kLines s (by omega) ?_
 obtain ⟨q1,q2⟩:=linesL_len s
 unfold zparseL at h
 generalize linesL s=L at *
 rw [WV_len]
 refine lp_ind (fun x=>L.length - x.1.2.2.2.2.2.1.toNat) (fun x=>∃ (j:Nat) (c:Src),j≤L.length∧c.ls.length≤j∧(0≤c.at'∧c.at'≤j)∧parseG j c (L.drop j)=parseG 0 src0 L ∧
  x=(((),(),(),(),(L.length:Int),(j:Int),()),([],false,0,()),(0,0,()),(TLV c.ls,false,0,c.at',c.til,()),(WV L,true,false),())) ?_ ⟨0,src0,by omega,by simp [src0],by simp [src0],rfl,rfl⟩
 rintro x ⟨j,c,hj,hc,ha,hp,rfl⟩ k hk
 unfold Lq1d_0
 dsimp only
 rw [WV_len,Int.toNat_natCast]
 by_cases e:j < L.length
 ·rw [if_pos (decide_eq_true (by omega)),if_pos (by omega)]
  refine asW e ?_
  have hL:=q2 _ (List.getElem_mem e)
  have w1:w64 ((j:Int)+1)=((j+1:Nat):Int):=by rw [w64_in (by omega) (by omega)]; omega
  refine kCut _ (by omega) fun b o=>?_
  have hb:=bare_len L[j]
  refine kWords _ (by omega) ?_
  rw [List.drop_eq_getElem_cons e,parseG] at hp
  have hwl:=wd_len (bareL L[j]) []
  rw [WV_len,w1]
  by_cases hw:wordsL (bareL L[j])=[]
  ·rw [if_pos hw] at hp
   rw [if_pos (by simp [hw])]
   exact hk _ ⟨j+1,c,e,by omega,by omega,hp,rfl⟩ (by show L.length - Int.toNat ((j+1:Nat):Int) < L.length - Int.toNat (j:Int); omega)
  ·rw [if_neg hw] at hp
   have h1:1≤(wordsL (bareL L[j])).length:=List.length_pos_iff.2 hw
   rw [if_neg (by simp; omega)]
   refine kSrcLine c (j+1) _ h1 (fun w hww=>by have:=(hwl.2 w hww).1; simp at this; omega) (by omega) fun o f=>?_
   have hlen:=lineW_len c (j+1) (wordsL (bareL L[j]))
   have hat:=lineW_at c (j+1) (wordsL (bareL L[j])) (by omega)
   generalize lineW c (j+1) (wordsL (bareL L[j]))=r at *
   by_cases he:r.2=0
   ·rw [if_neg (by simp [he])]
    rw [if_neg (by simp [he])] at hp
    exact hk _ ⟨j+1,r.1,e,by omega,hat,hp,rfl⟩ (by show L.length - Int.toNat ((j+1:Nat):Int) < L.length - Int.toNat (j:Int); omega)
   ·rw [if_pos (by simpa using he)]
    rw [if_pos he] at hp
    rw [← hp] at h
    have:=h true true
    simpa [tb0,TLV] using this
 ·rw [if_neg (dneg (by omega))]
  have:j=L.length:=by omega
  subst this
  rw [List.drop_length,parseG] at hp
  rw [← hp] at h
  unfold parseE at h
  by_cases a1:c.at' > 0
  ·simp only [if_pos a1] at h
   rw [if_pos (decide_eq_true a1)]
   refine kRightT ⟨c.ls,true,c.til⟩ (by show c.ls.length≤1000000; omega) ?_
   cases hr:rightT ⟨c.ls,true,c.til⟩
   ·simp only [hr,Bool.false_eq_true,if_false] at h
    rw [if_pos (by rfl)]
    have:=h true true
    exact ⟨dup_of (by simpa [tb0,TLV] using this),by simpa [tb0,TLV] using this⟩
   ·simp only [hr,if_true] at h
    rw [if_neg (by simp)]
    exact h _ _
  ·simp only [if_neg a1] at h
   rw [if_neg (dneg a1)]
   exact h _ _
end Go.Proofs.YtdjldmolhkkipaaGreatDoor
end
section
set_option linter.unusedVariables false
set_option linter.unusedSimpArgs false
namespace Go.Proofs.YtdjldmolhkkipaaGreatDoor
open Go Go.Proofs.YtdjldmolhkkipaaGreatDoor.Eng Go.Proofs.YtdjldmolhkkipaaGreatDoor.Pl
set_option maxRecDepth 100000
set_option maxHeartbeats 2000000
theorem kStClock (x:Int) (h0:0≤x) (h1:x < 86400) {K} (h:K (x / 3600) (x / 60 % 60) (x % 60) true):Xq0v x K:=by
 unfold Xq0v Yq0v
 simp only [decide_eq_true_eq,beq_iff_eq]
 rw [if_neg (by omega),if_neg (by omega),if_neg (by omega),Int.tdiv_eq_ediv_of_nonneg h0,Int.tdiv_eq_ediv_of_nonneg h0,Int.tmod_eq_emod_of_nonneg h0,
  w64_in (by omega) (by omega),w64_in (by omega) (by omega),Int.tmod_eq_emod_of_nonneg (by omega)]
 exact h
def fillR:List UInt8→List Int→List UInt8
 | [],_=>[]
 | c :: r,ns=>if c=48 then UInt8.ofNat (48+(ns.headD 0 % 10).toNat) :: fillR r (ns.headD 0 / 10 :: ns.tail) else c :: fillR r ns.tail
def fillL (f:List UInt8) (ns:List Int):List UInt8:=(fillR f.reverse ns.reverse).reverse
def IV (ns:List Int):List V:=ns.map fun n=>.c (.int .i64 n)
theorem IV_len (ns:List Int):(IV ns).length=ns.length:=by simp [IV]
theorem asIV {ns:List Int} {i:Nat} (h:i < ns.length) {F:Prop} {K:Int→Prop} (hk:K ns[i]):Eng.asInt .i64 (getC (IV ns) i 0) F K:=by
 have:getC (IV ns) i 0=some (.c (.int .i64 ns[i])):=by simp [getC,IV,V.cells,h]
 rw [this]; simpa [Eng.asInt] using hk
theorem IV_set (ns:List Int) (i:Nat) (h:i < ns.length) (x:Int):List.set (IV ns) i (Eng.setE (List.getD (IV ns) i Eng.V.bad) 0 [.c (.int .i64 x)])=IV (ns.set i x):=by
 have:List.getD (IV ns) i Eng.V.bad = .c (.int .i64 ns[i]):=by simp [IV,List.getD,h]
 rw [this]
 show List.set (IV ns) i (.c (.int .i64 x))=_
 simp [IV,List.map_set]
theorem B8_set (l:List UInt8) (i:Nat) (h:i < l.length) (x:UInt8):List.set (B8 l) i (Eng.setE (List.getD (B8 l) i Eng.V.bad) 0 [.c (.int .u8 (x.toNat:Int))])=B8 (l.set i x):=by
 have:List.getD (B8 l) i Eng.V.bad = .c (.int .u8 (l[i].toNat:Int)):=by simp [B8,List.getD,h]
 rw [this]
 show List.set (B8 l) i (.c (.int .u8 (x.toNat:Int)))=_
 simp [B8,List.map_set]
theorem kFill (f:List UInt8) (ns:List Int) (hf:f.length≤1000) (hn:ns.length≤1000) (h0:∀ n∈ns,0≤n∧n≤9223372036854775807) (hc:(f.filter (·≠48)).length < ns.length) {K} (h:K (S (fillL f ns))):Xq15 (S f) (IV ns) true false K:=by
 unfold Xq15 Yq15
 rw [bytesV_S,B8_len,IV_len]
 have w1:w64 ((ns.length:Int) - 1)=((ns.length:Nat):Int) - 1:=w64_in (by omega) (by omega)
 have w2:w64 ((f.length:Int) - 1)=((f.length:Nat):Int) - 1:=w64_in (by omega) (by omega)
 rw [w1,w2]
 refine lp_ind (fun x=>(x.1.2.2.2.2.1+1).toNat) (fun x=>∃ (p:Nat) (k:Int) (ms:List Int) (bs:List UInt8),p≤f.length∧bs.length=f.length∧bs.take p=f.take p∧ms.length=ns.length∧k < ms.length ∧
  (∀ n∈ms,0≤n∧n≤9223372036854775807)∧(((f.take p).filter (·≠48)).length:Int)≤k∧(fillR (f.take p).reverse (ms.take (k+1).toNat).reverse).reverse++bs.drop p=fillL f ns ∧
  x=(((),ByteArray.mk #[],(),k,(p:Int) - 1,()),(IV ms,true,false),B8 bs,())) ?_
  ⟨f.length,(ns.length:Int) - 1,ns,f,Nat.le_refl _,rfl,rfl,rfl,by omega,h0,by rw [List.take_length]; omega,by rw [List.take_length,show ((ns.length:Int) - 1+1).toNat=ns.length by omega,List.take_length]; simp [fillL],rfl⟩
 rintro x ⟨p,k,ms,bs,hp,hb,hbt,hm,hk,hz,hcnt,hres,rfl⟩ kk hkk
 unfold Lq15_0
 simp only [decide_eq_true_eq,B8_len,IV_len]
 cases p with
 | zero =>
  rw [if_neg (by omega),if_pos (B8_all _),B8_pack]
  have:bs=fillL f ns:=by simpa [fillR] using hres
  rw [this]; exact h
 | succ p =>
  have hpf:p < f.length:=by omega
  have e1:((p+1:Nat):Int) - 1=(p:Int):=by omega
  have hbp:bs[p]'(by omega)=f[p]:=by
   have h1:=congrArg (fun l=>l[p]?) hbt
   simpa [List.getElem?_take,hpf,show p < bs.length by omega] using h1
  rw [e1,if_pos (by omega),if_pos (by omega)]
  simp only [Int.toNat_natCast]
  refine asB8 (by omega) ?_
  rw [hbp]
  have hrev:(f.take (p+1)).reverse=f[p] :: (f.take p).reverse:=by rw [List.take_succ_eq_append_getElem hpf]; simp
  rw [hrev,fillR] at hres
  have hbd:bs.take p=f.take p:=by
   have:=congrArg (List.take p) hbt
   simpa [List.take_take,Nat.min_eq_left (Nat.le_succ p)] using this
  have w3:w64 ((p:Int) - 1)=(p:Int) - 1:=w64_in (by omega) (by omega)
  rw [List.take_succ_eq_append_getElem hpf,List.filter_append] at hcnt
  by_cases hd:f[p]=48
  ·have hne:¬ (((f[p].toNat:Int) != 48)=true):=by rw [hd]; decide
   rw [if_pos hd] at hres
   have hk0:0≤k:=by omega
   have hkm:k.toNat < ms.length:=by omega
   rw [if_neg hne,if_pos (by omega)]
   refine asB8 (by omega) ?_
   rw [hbp,if_pos (by omega)]
   refine asIV hkm ?_
   simp only [lt]
   rw [if_pos (by omega),if_pos (by omega),if_pos (by omega)]
   refine asIV hkm ?_
   rw [if_pos (by omega),if_pos trivial,if_pos hkm,w3]
   obtain ⟨z0,z1⟩:=hz _ (List.getElem_mem hkm)
   have t1:Int.tmod ms[k.toNat] 10=ms[k.toNat] % 10:=Int.tmod_eq_emod_of_nonneg z0
   have t2:w64 (Int.tdiv ms[k.toNat] 10)=ms[k.toNat] / 10:=by rw [Int.tdiv_eq_ediv_of_nonneg z0,w64_in (by omega) (by omega)]
   have t3:wu8 ((f[p].toNat:Int)+wu8 (Int.tmod ms[k.toNat] 10))=((UInt8.ofNat (48+(ms[k.toNat] % 10).toNat)).toNat:Int):=by
    rw [t1,hd,wu8_in (n:=ms[k.toNat] % 10) (by omega) (by omega),wu8_in (by simp; omega) (by simp; omega)]
    simp; omega
   rw [t2,t3,IV_set _ _ hkm,B8_set _ _ (by omega)]
   have htk:(ms.take (k+1).toNat).reverse=ms[k.toNat] :: (ms.take k.toNat).reverse:=by
    rw [show (k+1).toNat=k.toNat+1 by omega,List.take_succ_eq_append_getElem hkm]; simp
   rw [htk] at hres
   refine hkk _ ⟨p,k,ms.set k.toNat (ms[k.toNat] / 10),bs.set p (UInt8.ofNat (48+(ms[k.toNat] % 10).toNat)),by omega,by simpa using hb,?_,by simpa using hm,by simpa using hk,fun n hn=>?_,by rw [hd] at hcnt; simpa using hcnt,?_,by rfl⟩ (by dsimp only; omega)
   ·rw [List.take_set_of_le (Nat.le_refl p)]; exact hbd
   ·rcases List.mem_or_eq_of_mem_set hn with hn | rfl
    ·exact hz n hn
    ·omega
   ·have e2:((ms.set k.toNat (ms[k.toNat] / 10)).take (k+1).toNat).reverse=ms[k.toNat] / 10 :: (ms.take k.toNat).reverse:=by
     rw [show (k+1).toNat=k.toNat+1 by omega,List.take_succ_eq_append_getElem (by simpa using hkm),List.take_set_of_le (Nat.le_refl _)]; simp
    have e3:(bs.set p (UInt8.ofNat (48+(ms[k.toNat] % 10).toNat))).drop p=UInt8.ofNat (48+(ms[k.toNat] % 10).toNat) :: bs.drop (p+1):=by
     rw [List.drop_eq_getElem_cons (by simp; omega),List.getElem_set_self,List.drop_set_of_lt (by omega)]
    rw [e2,e3,← hres]
    simp
  ·have hne:((f[p].toNat:Int) != 48)=true:=by
    rw [bne_iff_ne]; intro e
    exact hd (u8_eq (by have:(48:UInt8).toNat=48:=rfl; omega))
   rw [if_neg hd] at hres
   have hcnt':(((f.take p).filter (·≠48)).length:Int)+1≤k:=by
    have:([f[p]].filter (·≠48)).length=1:=by simp [hd]
    rw [List.length_append,this] at hcnt; omega
   rw [if_pos hne,w3,w64_in (by omega) (by omega)]
   refine hkk _ ⟨p,k - 1,ms,bs,by omega,hb,hbd,hm,by omega,hz,by omega,?_,by rfl⟩ (by dsimp only; omega)
   have hkm:k.toNat < ms.length:=by omega
   have htk:(ms.take (k+1).toNat).reverse=ms[k.toNat] :: (ms.take k.toNat).reverse:=by
    rw [show (k+1).toNat=k.toNat+1 by omega,List.take_succ_eq_append_getElem hkm]; simp
   rw [htk] at hres
   rw [show (k - 1+1).toNat=k.toNat by omega,← hres,List.drop_eq_getElem_cons (show p < bs.length by omega),hbp]
   simp
def stampB (n x:Int):List UInt8:=fillL [48,48,48,48,45,48,48,45,48,48,84,48,48,58,48,48,58,48,48] [yearP n,monP n,dayP n,x / 3600,x / 60 % 60,x % 60]++[90]
theorem stamp_clock (n x:Int):(stampB n x).length=20∧((stampB n x).drop 11).take 8=hms x:=⟨rfl,rfl⟩
theorem kStText (n x:Int) (hn:-719162≤n∧n≤2932896) (h0:0≤x) (h1:x < 86400) {K} (h:K (S (stampB n x)) true):Xq12 n x K:=by
 unfold Xq12 Yq12
 refine sday n ?_
 rw [if_pos hn]
 refine kStClock x h0 h1 ?_
 obtain ⟨⟨v1,v2,v3,v4,v5,v6⟩,_⟩:=num_date hn.1 hn.2
 have:=dim_bd (yearP n) (monP n)
 rw [if_neg (by simp),if_neg (by simp)]
 have:=kFill [48,48,48,48,45,48,48,45,48,48,84,48,48,58,48,48,58,48,48] [yearP n,monP n,dayP n,x / 3600,x / 60 % 60,x % 60] (by decide) (by simp) (fun m hm=>by
  simp only [List.mem_cons,List.not_mem_nil,or_false] at hm
  rcases hm with rfl | rfl | rfl | rfl | rfl | rfl <;> omega) (show 5 < 6 by decide) (K:=fun r10=>if ((ByteArray.size r10+1:Nat):Int) > 9223372036854775807 then False else K (r10++S [90]) true) (by
  rw [if_neg (by rw [S_size]; simp [fillL,fillR]),S_append]; exact h)
 exact this
theorem kJoin (ws:List (List UInt8)) (h1:ws.length≤1000000) (h2:(joinT ws).length≤100000000) {K} (h:K (S (joinT ws))):Xjoin (WV ws) (ByteArray.mk #[9]) K:=by
 have e:(ws.map S).map (fun b=>b.data.toList)=ws:=by rw [List.map_map]; exact map_id_of ws fun w _=>S_data w
 refine ⟨ws.map S,by simp [WV,cs,List.map_map],by simpa using h1,?_,?_⟩
 ·rw [e]; exact h2
 ·rw [e]; exact h
theorem monName_cap {m:Int} (h1:1≤m) (h2:m≤12):3≤(monNames.getD (m - 1).toNat []).length ∧
  List.set (B8 ((monNames.getD (m - 1).toNat []).take 3)) 0 (Eng.setE (List.getD (B8 ((monNames.getD (m - 1).toNat []).take 3)) 0 Eng.V.bad) 0 [.c (.int .u8 (wu8 ((((monNames.getD (m - 1).toNat []).take 3).getD 0 0).toNat - 32)))])=B8 (monCap m)∧(monCap m).length=3:=by
 rcases month_cases h1 h2 with rfl | rfl | rfl | rfl | rfl | rfl | rfl | rfl | rfl | rfl | rfl | rfl <;> exact ⟨by decide,by rfl,by rfl⟩
theorem kWrite (kind:List UInt8) (n:Int) (rest:List (List UInt8)) (hn:-719162≤n∧n≤2932896) (h1:rest.length≤1000) (h2:(joinT (dateWords kind n rest)).length≤100000) {K} (h:K (S (joinT (dateWords kind n rest)++[10]))) :
  Xq1f (S kind) n (WV rest) K:=by
 unfold Xq1f Yq1f
 refine sday n ?_
 rw [if_pos hn]
 obtain ⟨⟨v1,v2,v3,v4,v5,v6⟩,_⟩:=num_date hn.1 hn.2
 have hd:=dim_bd (yearP n) (monP n)
 obtain ⟨n1,n2,n3⟩:=monName_cap v3 v4
 refine kNames ?_
 have w1:w64 (monP n - 1)=monP n - 1:=w64_in (by omega) (by omega)
 rw [w1,if_pos (by omega)]
 refine month_at (monP n - 1).toNat (by omega) ?_
 generalize hN:monNames.getD (monP n - 1).toNat []=N at *
 have hl3:(N.take 3).length=3:=by simp; omega
 simp only [S_size,S_extract,List.drop_zero,Nat.sub_zero,bytesV_S,B8_len,hl3,lt]
 rw [if_pos (by omega),if_pos (by omega)]
 refine asB8 (by omega) ?_
 have e0:(N.take 3)[0]'(by omega)=(N.take 3).getD 0 0:=by rw [getD_in _ _ _ (by omega)]
 rw [if_pos (by omega),if_pos (by omega),e0,n2]
 have tail:(if Eng.roomOk (List.length [V.c (.string (S kind)),V.c (.string (S (itoaK (yearP n)))),V.c (.string (S (monCap (monP n)))),V.c (.string (S (itoaK (dayP n))))]+(WV rest).length) 16=true then
   Xjoin ([V.c (.string (S kind)),V.c (.string (S (itoaK (yearP n)))),V.c (.string (S (monCap (monP n)))),V.c (.string (S (itoaK (dayP n))))]++WV rest) (ByteArray.mk #[9]) (fun r=>if ((ByteArray.size r+1:Nat):Int) > 9223372036854775807 then False else K (r++ByteArray.mk #[10])) else False):=by
  rw [if_pos (by unfold roomOk; rw [decide_eq_true_eq,WV_len]; simp; omega)]
  have e:[V.c (.string (S kind)),V.c (.string (S (itoaK (yearP n)))),V.c (.string (S (monCap (monP n)))),V.c (.string (S (itoaK (dayP n))))]++WV rest=WV (dateWords kind n rest):=rfl
  rw [e]
  refine kJoin _ (by simp [dateWords]; omega) (by omega) ?_
  rw [if_neg (by rw [S_size]; omega),S_append]
  exact h
 have p1:∀ {Q},Q (S (itoaK (yearP n)))→Xitoa (yearP n) Q:=fun hq=>sitoa _ (by omega) (by omega) hq
 have p2:∀ {Q},Q (S (itoaK (dayP n)))→Xitoa (dayP n) Q:=fun hq=>sitoa _ (by omega) (by omega) hq
 have all:=B8_all (monCap (monP n))
 simp only [B8_pack]
 exact ⟨p1 ⟨by rw [if_pos all]; exact p2 tail,p2 (by rw [if_pos all]; exact tail)⟩,by rw [if_pos all]; exact p1 (p2 tail)⟩
theorem itoa_len (n:Int):(itoaK n).length≤21:=itoaK_len n
theorem join_len (ws:List (List UInt8)) (m:Nat) (h:∀ w∈ws,w.length≤m):(joinT ws).length≤(m+1) * ws.length:=by
 induction ws with
 | nil=>simp [joinT,Lib.join,List.intercalate,List.intersperse]
 | cons w r ih =>
  cases r with
  | nil=>rw [join_one]; have:=h w (.head _); simp; omega
  | cons v r =>
   rw [join_cons]
   have h1:=h w (.head _)
   have h2:=ih fun x hx=>h x (.tail _ hx)
   simp only [List.length_append,List.length_cons] at h2 ⊢
   rw [Nat.mul_add (m+1) (r.length+1) 1]
   omega
theorem date_len' (kind:List UInt8) (n:Int) (rest:List (List UInt8)) (hn:-719162≤n∧n≤2932896) (hk:kind.length≤21) (hr:∀ w∈rest,w.length≤21):(joinT (dateWords kind n rest)).length≤22 * (4+rest.length):=by
 obtain ⟨⟨v1,v2,v3,v4,v5,v6⟩,_⟩:=num_date hn.1 hn.2
 have:=join_len (dateWords kind n rest) 21 (fun w hw=>by
  unfold dateWords at hw
  simp only [List.cons_append,List.nil_append,List.mem_cons] at hw
  rcases hw with rfl | rfl | rfl | rfl | hw
  ·exact hk
  ·exact itoa_len _
  ·have:=(monName_cap v3 v4).2.2; omega
  ·exact itoa_len _
  ·exact hr w hw)
 simp [dateWords] at this ⊢
 omega
theorem kLeapLine (l:LR) (hn:-719162≤l.1∧l.1≤2932896) (s1 s2 s3:List UInt8) (h1:s1=if l.2.1 < 0 then [50,51,58,53,57,58,53,57] else [50,51,58,53,57,58,54,48]) (h2:s2=if l.2.1 < 0 then [45] else [43]) (h3:s3=if l.2.2=true then [82] else [83])
  {K} (h:K (S (joinT (leapWords l)++[10]))):Xq1f (S [76,101,97,112]) l.1 (WV [s1,s2,s3]) K:=by
 have hl:=date_len' [76,101,97,112] l.1 [s1,s2,s3] hn (by decide) (fun w hw=>by
  simp only [List.mem_cons,List.not_mem_nil,or_false] at hw
  rcases hw with rfl | rfl | rfl
  ·rw [h1]; split <;> decide
  ·rw [h2]; split <;> decide
  ·rw [h3]; split <;> decide)
 refine kWrite _ _ _ hn (by simp) (by simp at hl; omega) ?_
 rw [h1,h2,h3]; exact h
theorem leap_len {l:LR} (hn:-719162≤l.1∧l.1≤2932896):(joinT (leapWords l)++[10]).length≤200:=by
 have:=date_len' [76,101,97,112] l.1 [if l.2.1 < 0 then [50,51,58,53,57,58,53,57] else [50,51,58,53,57,58,54,48],if l.2.1 < 0 then [45] else [43],if l.2.2=true then [82] else [83]] hn (by decide) (fun w hw=>by
  simp only [List.mem_cons,List.not_mem_nil,or_false] at hw
  rcases hw with rfl | rfl | rfl <;> split <;> decide)
 rw [List.length_append]
 simp only [List.length_cons,List.length_nil] at this ⊢
 unfold leapWords; omega
theorem checkG_len:∀ (p:List LR) (k:Nat) (a:Int),(checkG k a p).2.1=0→p=[]∨k+p.length≤200
 | [],k,a,h=>.inl rfl
 | x :: p,k,a,h=>by
  rw [checkG] at h
  split at h
  ·rename_i hw; exact absurd h hw
  ·rename_i hw
   have hw:wrongL k x a=0:=by omega
   obtain ⟨q0,_⟩:=wrongL_0 hw
   rcases checkG_len p _ _ h with rfl | h'
   ·right; simp; omega
   ·right; simp; omega
theorem kZText (t:Tb) (hl:t.ls.length≤1000000) {K} (h:K (S (ztextL t).1) (ztextL t).2):Xq1o (TLV t.ls,t.has,t.ex,()) K:=by
 unfold Xq1o Yq1o
 refine kRightT t hl ?_
 unfold ztextL at h
 cases hr:rightT t
 ·rw [if_pos (by rfl)]
  rw [hr,if_neg (by simp)] at h; exact h
 rw [hr,if_pos rfl] at h
 rw [if_neg (by simp)]
 obtain ⟨g1,g2⟩:=right_0 hr
 obtain ⟨x1,x2⟩:=right_ex hr
 have hlen:t.ls.length≤200:=by
  rcases checkG_len _ _ _ g1 with e | e
  ·rw [e]; simp
  ·omega
 have all:=checkG_all _ _ _ g1
 unfold ztextB zlines at h
 rw [TLV_len]
 have bd:∀ j,j≤t.ls.length→(((t.ls.take j).map leapWords).map fun ws=>joinT ws++[10]).flatten.length≤200 * j:=fun j hj=>by
  induction j with
  | zero=>simp
  | succ j ih =>
   have e:j < t.ls.length:=hj
   obtain ⟨q1,q2,_⟩:=all _ (List.getElem_mem e)
   have:=leap_len (l:=t.ls[j]) (by omega)
   have:=ih (by omega)
   rw [List.take_succ_eq_append_getElem e,List.map_append,List.map_append,List.flatten_append,List.length_append]
   simp only [List.map_cons,List.map_nil,List.flatten_cons,List.flatten_nil,List.append_nil]
   omega
 refine lp_at (fun j=>(((),S (((t.ls.take j).map leapWords).map fun ws=>joinT ws++[10]).flatten,false,TLV t.ls,(t.ls.length:Int),(j:Int),()),(TLV t.ls,t.has,t.ex,()),())) t.ls.length rfl fun j hj k hk=>?_
 unfold Lq1o_0
 dsimp only
 have bj:=bd j hj
 generalize hT:(((t.ls.take j).map leapWords).map fun ws=>joinT ws++[10]).flatten=T at *
 by_cases e:j < t.ls.length
 ·rw [if_pos (decide_eq_true (by omega)),TLV_len,if_pos (by omega),Int.toNat_natCast]
  refine asL1 e (asL2 e (asL3 e ?_))
  obtain ⟨q1,q2,q3⟩:=all _ (List.getElem_mem e)
  have hn:-719162≤(t.ls[j]).1∧(t.ls[j]).1≤2932896:=by omega
  have w1:w64 ((j:Int)+1)=((j+1:Nat):Int):=by rw [w64_in (by omega) (by omega)]; omega
  have ll:=leap_len (l:=t.ls[j]) hn
  have go:∀ s1 s2 s3,s1=(if (t.ls[j]).2.1 < 0 then [50,51,58,53,57,58,53,57] else [50,51,58,53,57,58,54,48])→s2=(if (t.ls[j]).2.1 < 0 then [45] else [43])→s3=(if (t.ls[j]).2.2=true then [82] else [83]) →
    Xq1f (S [76,101,97,112]) (t.ls[j]).1 (WV [s1,s2,s3]) (fun r=>if ((ByteArray.size (S T)+ByteArray.size r:Nat):Int) > 9223372036854775807 then False else k (((),S T++r,false,TLV t.ls,(t.ls.length:Int),w64 ((j:Int)+1),()),(TLV t.ls,t.has,t.ex,()),())):=fun s1 s2 s3 e1 e2 e3=>by
   refine kLeapLine _ hn s1 s2 s3 e1 e2 e3 ?_
   rw [if_neg (by rw [S_size,S_size]; omega),w1,S_append]
   have:=hk e
   rw [List.take_succ_eq_append_getElem e,List.map_append,List.map_append,List.flatten_append,hT] at this
   simpa using this
  by_cases c1:(t.ls[j]).2.1 < 0
  ·rw [if_pos (decide_eq_true c1)]
   rw [if_pos c1,if_pos c1] at go
   cases c2:(t.ls[j]).2.2
   ·rw [if_neg (by simp)]
    exact go _ _ [83] rfl rfl (by rw [c2]; rfl)
   ·rw [if_pos rfl]
    exact go _ _ [82] rfl rfl (by rw [c2]; rfl)
  ·rw [if_neg (dneg c1)]
   rw [if_neg c1,if_neg c1] at go
   cases c2:(t.ls[j]).2.2
   ·rw [if_neg (by simp)]
    exact go _ _ [83] rfl rfl (by rw [c2]; rfl)
   ·rw [if_pos rfl]
    exact go _ _ [82] rfl rfl (by rw [c2]; rfl)
 ·have:j=t.ls.length:=by omega
  subst this
  rw [List.take_length] at hT
  rw [if_neg (dneg (by omega))]
  cases hh:t.has
  ·rw [if_neg (by simp)]
   rw [hh,if_neg (by simp),List.append_nil,hT] at h
   exact h
  ·obtain ⟨y1,y2⟩:=x2 hh
   rw [hh,if_pos rfl,List.map_append,List.flatten_append,hT] at h
   rw [if_pos rfl,Int.tdiv_eq_ediv_of_nonneg (by omega),Int.tmod_eq_emod_of_nonneg (by omega),w64_in (by omega) (by omega)]
   have hn:-719162≤t.ex / 86400∧t.ex / 86400≤2932896:=by omega
   refine kStText _ _ hn (by omega) (by omega) ?_
   obtain ⟨z1,z2⟩:=stamp_clock (t.ex / 86400) (t.ex % 86400)
   rw [S_size,z1,if_pos (by omega),S_extract,z2]
   have hl:=date_len' [69,120,112,105,114,101,115] (t.ex / 86400) [hms (t.ex % 86400)] hn (by decide) (fun w hw=>by
    simp only [List.mem_cons,List.not_mem_nil,or_false] at hw
    subst hw; exact (show 8≤21 by decide))
   refine kWrite [69,120,112,105,114,101,115] _ [hms (t.ex % 86400)] hn (by simp) (by simp at hl; omega) ?_
   rw [if_neg (by rw [S_size,S_size,List.length_append]; simp at hl ⊢; omega),S_append]
   simpa [expWords] using h
end Go.Proofs.YtdjldmolhkkipaaGreatDoor
end
section
set_option linter.unusedVariables false
set_option linter.unusedSimpArgs false
namespace Go.Proofs.YtdjldmolhkkipaaGreatDoor
open Go Go.Proofs.YtdjldmolhkkipaaGreatDoor.Eng Go.Proofs.YtdjldmolhkkipaaGreatDoor.Pl
set_option maxRecDepth 100000
set_option maxHeartbeats 4000000
theorem kParseAt (s:List UInt8) (r:Tb×Int×Int) (e:zparseL s=r) (hs:Nat.ble s.length 90000=true) {K} (h:∀ o f,K ((),r.1.has,r.1.ex,()) (r.2.1,r.2.2,()) (TLV r.1.ls) o f):Xq1d (S s) K:=by
 subst e; exact kParse s (Nat.le_of_ble_eq_true hs) h
theorem kTextAt (t:Tb) (r:List UInt8×Bool) (e:ztextL t=r) (hl:Nat.ble t.ls.length 1000000=true) {K} (h:K (S r.1) r.2):Xq1o (TLV t.ls,t.has,t.ex,()) K:=by
 subst e; exact kZText t (Nat.le_of_ble_eq_true hl) h
theorem kMonthAt (s:List UInt8) (r:Int×Bool) (e:monthL s=r) (hl:Nat.ble s.length 1000000=true) {K} (h:K r.1 r.2):Xq1k (S s) K:=by
 subst e; exact kMonth s (Nat.le_of_ble_eq_true hl) h
theorem kClockAt (s:List UInt8) (r:Int×Bool) (e:zclockL s=r) (hl:Nat.ble s.length 1000000=true) {K} (h:K r.1 r.2):Xq1h (S s) K:=by
 subst e; exact kClock s (Nat.le_of_ble_eq_true hl) h
theorem kSameAt (a b:Tb) (r:Bool) (e:decide (a=b)=r) (hl:Nat.ble a.ls.length 1000000=true) {K} (h:K r):Xq0f (TLV a.ls,a.has,a.ex,()) (TLV b.ls,b.has,b.ex,()) K:=by
 subst e; exact kSame a b (Nat.le_of_ble_eq_true hl) h
def tbS:Tb:=⟨[(911,1,false),(1095,-1,true)],true,126230405⟩
def txS:List UInt8:=[76,101,97,112,9,49,57,55,50,9,74,117,110,9,51,48,9,50,51,58,53,57,58,54,48,9,43,9,83,10,76,101,97,112,9,49,57,55,50,9,68,101,99,9,51,49,9,50,51,58,53,57,58,53,57,9,45,9,82,10,69,120,112,105,114,101,115,9,49,57,55,52,9,74,97,110,9,49,9,48,48,58,48,48,58,48,53,10]
theorem kSmall {K:Bool→Prop} (h:K true):Xq0d K:=by
 rw [Xq0d,Yq0d]
 refine kParseAt _ (tbS,0,0) (by kernel_rfl) (by kernel_rfl) fun o1 f1=>?_
 refine kParseAt _ (tb0,1,6) (by kernel_rfl) (by kernel_rfl) fun o2 f2=>?_
 refine kParseAt _ (tb0,2,5) (by kernel_rfl) (by kernel_rfl) fun o3 f3=>?_
 refine kParseAt _ (tb0,1,9) (by kernel_rfl) (by kernel_rfl) fun o4 f4=>?_
 refine kParseAt _ (tb0,1,2) (by kernel_rfl) (by kernel_rfl) fun o5 f5=>?_
 refine kParseAt _ (tb0,2,2) (by kernel_rfl) (by kernel_rfl) fun o6 f6=>?_
 refine kTextAt tbS (txS,true) (by kernel_rfl) (by kernel_rfl) ?_
 refine kParseAt _ (tbS,0,0) (by kernel_rfl) (by kernel_rfl) fun o7 f7=>?_
 refine kMonthAt _ (9,true) (by kernel_rfl) (by kernel_rfl) ?_
 refine kMonthAt _ (0,false) (by kernel_rfl) (by kernel_rfl) ?_
 refine kClockAt _ (3723,true) (by kernel_rfl) (by kernel_rfl) ?_
 refine kClockAt _ (0,false) (by kernel_rfl) (by kernel_rfl) ?_
 refine kClockAt _ (0,false) (by kernel_rfl) (by kernel_rfl) ?_
 refine kSameAt tbS tbS true (by kernel_rfl) (by kernel_rfl) ?_
 simp only [beq_self_eq_true,Bool.and_self,Bool.and_true,if_true]
 refine kSameAt tbS tbS true (by kernel_rfl) (by kernel_rfl) ?_
 simp only [beq_self_eq_true,Bool.and_self,Bool.and_true,Bool.not_false,if_true,lt]
 rw [kS_eq txS,if_pos (by kernel_rfl)]
 exact h
theorem flat_len:∀ (xs:List (List UInt8)) (m:Nat),(∀ x∈xs,x.length≤m)→xs.flatten.length≤m * xs.length
 | [],m,h=>by simp
 | x :: r,m,h=>by
  have h1:=h x (.head _)
  have h2:=flat_len r m fun y hy=>h y (.tail _ hy)
  rw [List.flatten_cons,List.length_append,List.length_cons,Nat.mul_add,Nat.mul_one]; omega
theorem ztext_len {t:Tb} (hr:rightT t=true):(ztextB t).length≤200 * (t.ls.length+1)∧t.ls.length≤200:=by
 obtain ⟨g1,g2⟩:=right_0 hr
 have hlen:t.ls.length≤200:=by
  rcases checkG_len _ _ _ g1 with e | e
  ·rw [e]; simp
  ·omega
 refine ⟨?_,hlen⟩
 unfold ztextB
 have:=flat_len ((zlines t).map fun ws=>joinT ws++[10]) 200 fun x hx=>by
  obtain ⟨ws,hws,rfl⟩:=List.mem_map.1 hx
  unfold zlines at hws
  rw [List.mem_append] at hws
  rcases hws with hws | hws
  ·obtain ⟨l,hl,rfl⟩:=List.mem_map.1 hws
   obtain ⟨q1,q2,q3⟩:=checkG_all _ _ _ g1 l hl
   exact leap_len (by omega)
  ·split at hws
   ·rename_i hh
    obtain ⟨x1,x2⟩:=(right_ex hr).2 hh
    simp only [List.mem_singleton] at hws
    subst hws
    have hl:=date_len' [69,120,112,105,114,101,115] (t.ex / 86400) [hms (t.ex % 86400)] (by omega) (by decide) (fun w hw=>by
     simp only [List.mem_cons,List.not_mem_nil,or_false] at hw
     subst hw; exact (show 8≤21 by decide))
    rw [List.length_append]
    unfold expWords
    simp at hl ⊢; omega
   ·cases hws
 have l2:((zlines t).map fun ws=>joinT ws++[10]).length≤t.ls.length+1:=by
  unfold zlines; split <;> simp
 exact Nat.le_trans this (Nat.mul_le_mul (Nat.le_refl _) l2)
end Go.Proofs.YtdjldmolhkkipaaGreatDoor
end
section
set_option linter.unusedVariables false
set_option linter.unusedSimpArgs false
namespace Go.Proofs.YtdjldmolhkkipaaGreatDoor
open Go Go.Proofs.YtdjldmolhkkipaaGreatDoor.Eng Go.Proofs.YtdjldmolhkkipaaGreatDoor.Pl
set_option maxRecDepth 100000
set_option maxHeartbeats 2000000
theorem lZicLists (t:Tb) (wh:Int) (hw:wh≤9223372036854775807) {K:Bool→Prop} (h:K true):Xq09 (TLV t.ls,t.has,t.ex,()) wh K:=by
 rw [Xq09,Yq09]
 refine kSmall ?_
 unfold Xq0m Yq0m
 dsimp only
 rw [TLV_len]
 by_cases h1:((t.ls.length:Nat):Int)≤300
 ·rw [if_neg (by simp; omega)]
  by_cases w0:wh < 0
  ·rw [if_pos (decide_eq_true w0)]; exact h
  rw [if_neg (dneg w0)]
  refine eText t wh hw (by omega) (kZText t (by omega) ?_)
  by_cases ok:rightT t=true∧0≤wh∧offOk 10 t.ls=true
  ·have e:ltextL t wh=(ltextB t wh,true):=by unfold ltextL; rw [if_pos ok]
   have e2:ztextL t=(ztextB t,true):=by unfold ztextL; rw [if_pos ok.1]
   rw [e,e2]
   dsimp only
   rw [if_neg (show ¬ ((!true)=true) by simp)]
   obtain ⟨hb,hlen⟩:=ztext_len ok.1
   refine eParseAt _ _ (lparse_text ok.1 ok.2.1 hw ok.2.2) (Nat.ble_eq_true_of_le (Nat.le_trans (ltextB_len t wh (by omega)).2 (by decide))) fun o f=>?_
   refine kParseAt _ _ (zparse_text ok.1) (Nat.ble_eq_true_of_le (by omega)) fun o2 f2=>?_
   rw [if_pos rfl,if_pos rfl,if_pos (by rfl),if_pos (by rfl)]
   refine kSameAt t t true (decide_eq_true rfl) (Nat.ble_eq_true_of_le (by omega)) ?_
   exact h
  ·have e:ltextL t wh=([],false):=by unfold ltextL; rw [if_neg ok]
   rw [e]
   dsimp only
   rw [if_pos (show (!false)=true from rfl)]
   exact h
 ·rw [if_pos (by simp; omega)]
  exact h
end Go.Proofs.YtdjldmolhkkipaaGreatDoor
end
section
set_option linter.unusedVariables false
set_option linter.unusedSimpArgs false
namespace Go.Proofs.YtdjldmolhkkipaaGreatDoor
open Go Go.Proofs.YtdjldmolhkkipaaGreatDoor.Eng Go.Proofs.YtdjldmolhkkipaaGreatDoor.Pl
abbrev akT:AK:=(.st (.cons (.sl (.st (.cons (.int .i64) (.cons (.int .i64) (.cons .bool .nil))))) (.cons .bool (.cons (.int .i64) .nil))))
theorem wfI {n:Int} (h:(Lit.int .i64 n).wf=true):-9223372036854775808≤n∧n≤9223372036854775807:=by
 simp [Lit.wf,IntKind.min,IntKind.max,IntKind.bits,IntKind.signed] at h
 omega
theorem table_of (ls:List (Int×Int×Bool×Unit)) (has:Bool) (ex:Int) (h1:ls.length≤9223372036854775807) (h3:(Lit.int .i64 ex).wf=true) :
  ∃ t:Tb,((ls.map fun x=>V.agg [.c (.int .i64 x.1),.c (.int .i64 x.2.1),.c (.bool x.2.2.1)],has,ex,()):List V×Bool×Int×Unit)=(TLV t.ls,t.has,t.ex,())∧(-9223372036854775808≤t.ex∧t.ex≤9223372036854775807)∧t.ls.length≤9223372036854775807:=by
 refine ⟨⟨ls.map fun x=>(x.1,x.2.1,x.2.2.1),has,ex⟩,?_,wfI h3,by simpa using h1⟩
 unfold TLV
 rw [List.map_map]; rfl
theorem table_in (a:akT.T) (h:akT.good a):∃ t:Tb,(akT.DV a:List V×Bool×Int×Unit)=(TLV t.ls,t.has,t.ex,())∧(-9223372036854775808≤t.ex∧t.ex≤9223372036854775807)∧t.ls.length≤9223372036854775807:=by
 obtain ⟨ls,has,ex,u⟩:=a
 obtain ⟨h1,h2,h3,h4⟩:=h
 exact table_of ls has ex h1.1 h3
end Go.Proofs.YtdjldmolhkkipaaGreatDoor
end
section
set_option linter.unusedVariables false
set_option linter.unusedSimpArgs false
namespace Go.Proofs.YtdjldmolhkkipaaGreatDoor
open Go Go.Proofs.YtdjldmolhkkipaaGreatDoor.Eng Go.Proofs.YtdjldmolhkkipaaGreatDoor.Pl
theorem pureZicLists:PureZicLists:=by
 intro a0 h0 a1 h1
 obtain ⟨t,e,_⟩:=table_in a0 h0
 rw [show (akZicLists0.DV a0:List V×Bool×Int×Unit)=(TLV t.ls,t.has,t.ex,()) from e]
 exact lZicLists t a1 (wfI h1).2 rfl
end Go.Proofs.YtdjldmolhkkipaaGreatDoor
end
