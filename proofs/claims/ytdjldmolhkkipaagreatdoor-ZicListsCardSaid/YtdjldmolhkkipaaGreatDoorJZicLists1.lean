/- What the functions come to in plain data, with proofs, and what that answers. -/
import Derived.Test.YtdjldmolhkkipaaGreatDoorJZicLists0
section
set_option linter.unusedVariables false
set_option linter.unusedSimpArgs false
namespace Go.Proofs.YtdjldmolhkkipaaGreatDoor.Pl
open Go Go.Proofs.YtdjldmolhkkipaaGreatDoor.Eng
def splN (c:UInt8):Nat→List UInt8→List (List UInt8)
 | 0,l=>[l]
 | k+1,l=>if nl (· == c) l < l.length then l.take (nl (· == c) l) :: splN c k (l.drop (nl (· == c) l+1)) else [l]
def spl (c:UInt8):List UInt8→List (List UInt8)
 | []=>[[]]
 | b :: r=>if b == c then [] :: spl c r else match spl c r with
  | []=>[[b]]
  | h :: t=>(b :: h) :: t
theorem spl_ne (c:UInt8) (l:List UInt8):spl c l≠[]:=by
 cases l with
 | nil=>simp [spl]
 | cons b r =>
  rw [spl]; split
  ·simp
  ·split <;> simp
theorem spl_eq (c:UInt8):∀ l,spl c l=if nl (· == c) l < l.length then l.take (nl (· == c) l) :: spl c (l.drop (nl (· == c) l+1)) else [l]
 | []=>rfl
 | b :: r=>by
  rw [spl,nl_cons]
  cases hb:b == c
  ·simp only [Bool.false_eq_true,if_false,List.length_cons]
   rw [spl_eq c r]
   by_cases h:nl (· == c) r < r.length
   ·simp only [if_pos h]; rw [if_pos (by omega)]; simp
   ·simp only [if_neg h]; rw [if_neg (by omega)]
  ·simp
theorem count_nl (c:UInt8) (l:List UInt8) (h:nl (· == c) l < l.length):l.count c=(l.drop (nl (· == c) l+1)).count c+1:=by
 induction l with
 | nil=>simp at h
 | cons b r ih =>
  rw [nl_cons] at h ⊢
  cases hb:b == c
  ·rw [hb] at h
   simp only [Bool.false_eq_true,if_false,List.length_cons] at h ⊢
   rw [List.count_cons,hb,ih (by omega)]; simp
  ·rw [List.count_cons,hb]; simp
theorem splN_spl (c:UInt8):∀ (k:Nat) (l:List UInt8),l.count c≤k→splN c k l=spl c l
 | 0,l,h=>by
  rw [splN,spl_eq,if_neg]
  intro hh
  have:=count_nl c l hh
  omega
 | k+1,l,h=>by
  rw [splN,spl_eq]
  split
  ·rename_i hh
   have:=count_nl c l hh
   rw [splN_spl c k _ (by omega)]
  ·rfl
theorem spl_app (c:UInt8):∀ (a r:List UInt8),c∉a→spl c (a++c :: r)=a :: spl c r
 | [],r,_=>by rw [List.nil_append,spl]; simp
 | b :: a,r,h=>by
  have hb:(b == c)=false:=by
   simp only [beq_eq_false_iff_ne]; exact fun e=>h (e ▸ .head _)
  rw [List.cons_append,spl,hb,spl_app c a r (fun hh=>h (.tail _ hh))]; simp
theorem splN_len (c:UInt8):∀ (k:Nat) (l:List UInt8),(splN c k l).length≤k+1∧1≤(splN c k l).length∧∀ w∈splN c k l,w.length≤l.length
 | 0,l=>by simp [splN]
 | k+1,l=>by
  rw [splN]
  split
  ·obtain ⟨h1,h2,h3⟩:=splN_len c k (l.drop (nl (· == c) l+1))
   refine ⟨by simp; omega,by simp,fun w hw=>?_⟩
   cases hw with
   | head=>simp; omega
   | tail _ hw=>have:=h3 w hw; simp at this; omega
  ·refine ⟨by simp,by simp,fun w hw=>?_⟩
   simp at hw; rw [hw]; exact Nat.le_refl _
theorem spl_len (c:UInt8) (l:List UInt8):(spl c l).length≤l.length+1∧1≤(spl c l).length∧∀ w∈spl c l,w.length≤l.length:=by
 rw [← splN_spl c l.length l List.count_le_length]
 exact splN_len c _ l
def trimR (l:List UInt8):List UInt8:=if l.getLast? = some 13 then l.dropLast else l
def linesL (l:List UInt8):List (List UInt8):=(if (spl 10 l).getLast? = some [] then (spl 10 l).dropLast else spl 10 l).map trimR
theorem trimR_len (l:List UInt8):(trimR l).length≤l.length:=by unfold trimR; split <;> simp
theorem linesL_len (l:List UInt8):(linesL l).length≤l.length+1∧∀ w∈linesL l,w.length≤l.length:=by
 obtain ⟨h1,h2,h3⟩:=spl_len 10 l
 unfold linesL
 constructor
 ·split <;> simp <;> omega
 ·intro w hw
  obtain ⟨v,hv,rfl⟩:=List.mem_map.1 hw
  have hv':v∈spl 10 l:=by
   split at hv
   ·exact (List.dropLast_sublist _).subset hv
   ·exact hv
  have:=trimR_len v
  have:=h3 v hv'
  omega
def blankB (c:UInt8):Bool:=c == 32 || c == 9
def wd:List UInt8→List UInt8→List (List UInt8)
 | cur,[]=>if cur=[] then [] else [cur]
 | cur,c :: r=>if blankB c=true then (if cur=[] then wd [] r else cur :: wd [] r) else wd (cur++[c]) r
def wordsL (l:List UInt8):List (List UInt8):=wd [] l
theorem wd_blank (l:List UInt8):∀ cur,wd cur (l++[32])=wd cur l:=by
 induction l with
 | nil=>intro cur; simp [wd,blankB]
 | cons c r ih =>
  intro cur
  rw [List.cons_append,wd,wd]
  simp only [ih]
theorem wd_skip:∀ (a cur r:List UInt8),(∀ c∈a,blankB c=false)→wd cur (a++r)=wd (cur++a) r
 | [],cur,r,_=>by simp
 | c :: a,cur,r,h=>by
  rw [List.cons_append,wd,if_neg (by rw [h c (.head _)]; simp),wd_skip a _ r (fun d hd=>h d (.tail _ hd))]; simp
theorem wd_len:∀ (l cur:List UInt8),(wd cur l).length≤l.length+1∧∀ w∈wd cur l,w.length≤cur.length+l.length∧w≠[]
 | [],cur=>by
  rw [wd]; split
  ·simp
  ·rename_i h; simp [h]
 | c :: r,cur=>by
  rw [wd]
  split
  ·split
   ·obtain ⟨h1,h2⟩:=wd_len r []
    refine ⟨by simp; omega,fun w hw=>⟨by have:=(h2 w hw).1; simp at this ⊢; omega,(h2 w hw).2⟩⟩
   ·rename_i hc
    obtain ⟨h1,h2⟩:=wd_len r []
    refine ⟨by simp; omega,fun w hw=>?_⟩
    cases hw with
    | head=>exact ⟨by simp,hc⟩
    | tail _ hw=>exact ⟨by have:=(h2 w hw).1; simp at this ⊢; omega,(h2 w hw).2⟩
  ·obtain ⟨h1,h2⟩:=wd_len r (cur++[c])
   exact ⟨by simp; omega,fun w hw=>⟨by have:=(h2 w hw).1; simp at this ⊢; omega,(h2 w hw).2⟩⟩
def numL (l:List UInt8):Int×Bool:=if l≠[]∧l.all isDig=true∧valL l≤9223372036854775807 then ((valL l:Int),true) else (0,false)
def lowB (c:UInt8):UInt8:=if 65≤c.toNat∧c.toNat≤90 then UInt8.ofNat (c.toNat+32) else c
def foldLw (l:List UInt8):List UInt8:=l.map lowB
def preB (n f:List UInt8):Bool:=n.take f.length == f
def monNames:List (List UInt8):=[[106,97,110,117,97,114,121],[102,101,98,114,117,97,114,121],[109,97,114,99,104],[97,112,114,105,108],[109,97,121],[106,117,110,101],[106,117,108,121],[97,117,103,117,115,116],[115,101,112,116,101,109,98,101,114],[111,99,116,111,98,101,114],[110,111,118,101,109,98,101,114],[100,101,99,101,109,98,101,114]]
def monG (f:List UInt8):Nat→List (List UInt8)→Int×Bool
 | _,[]=>(0,false)
 | k,n :: r=>if (decide (f.length > 2) && preB n f)=true then ((k:Int)+1,true) else monG f (k+1) r
def monthL (s:List UInt8):Int×Bool:=monG (foldLw s) 0 monNames
def secondL (h m s:Int):Int×Bool:=if h=23∧m=59∧s=60 then (86400,true) else if 0≤h∧h≤23∧0≤m∧m≤59∧0≤s∧s≤59 then (h * 3600+m * 60+s,true) else (0,false)
def two (l:List UInt8):Bool:=(numL l).2 && decide (l.length≤2)
def zclockL (s:List UInt8):Int×Bool:=match splN 58 2 s with
 | [a,b,c]=>if (two a && two b && two c)=true then secondL (numL a).1 (numL b).1 (numL c).1 else (0,false)
 | _=>(0,false)
abbrev LR:=Int×Int×Bool
structure Tb where
 ls:List LR
 has:Bool
 ex:Int
deriving DecidableEq
def eLR (l:LR):V:=.agg [.c (.int .i64 l.1),.c (.int .i64 l.2.1),.c (.bool l.2.2)]
def endD (n:Int):Bool:=decide (-719162≤n∧n≤2932896) && (dayP n == dim (yearP n) (monP n))
def wrongL (k:Nat) (l:LR) (ahead:Int):Int :=
 if 200≤k then 8 else if l.1 < 730∨2932896≤l.1 then 9 else if endD l.1=false then 5 else if l.2.1≠1∧l.2.1≠-1 then 6 else if l.1≤ahead then 4 else 0
def checkG:Nat→Int→List LR→Nat×Int×Int
 | k,ahead,[]=>(k,0,ahead)
 | k,ahead,l :: r=>if wrongL k l ahead≠0 then (k,wrongL k l ahead,ahead) else checkG (k+1) l.1 r
def expB (has:Bool) (ex ahead:Int):Int :=
 if has=true then (if ex < (if 63072000 > (ahead+1) * 86400 then 63072000 else (ahead+1) * 86400)∨253402300799 < ex then 9 else 0) else if ex≠0 then 9 else 0
def checkT (t:Tb):Nat×Int:=if (checkG 0 729 t.ls).2.1≠0 then ((checkG 0 729 t.ls).1,(checkG 0 729 t.ls).2.1) else (t.ls.length,expB t.has t.ex (checkG 0 729 t.ls).2.2)
def rightT (t:Tb):Bool:=(checkT t).2 == 0
def addT (t:Tb) (l:LR):Tb×Int:=if (checkT ⟨t.ls++[l],t.has,t.ex⟩).2≠0 then (t,(checkT ⟨t.ls++[l],t.has,t.ex⟩).2) else (⟨t.ls++[l],t.has,t.ex⟩,0)
structure Row where
 kind:Int
 y:Int
 m:Int
 d:Int
 sec:Int
 sign:List UInt8
 roll:Bool
def rollL (s:List UInt8):Bool×Bool:=if preB [114,111,108,108,105,110,103] (foldLw s)=true then (true,true) else (false,preB [115,116,97,116,105,111,110,97,114,121] (foldLw s))
def dateW (kind:Int) (w1 w2 w3 w4:List UInt8):Row×Bool:=(⟨kind,(numL w1).1,(monthL w2).1,(numL w3).1,(zclockL w4).1,[],false⟩,(numL w1).2 && (monthL w2).2 && (numL w3).2 && (zclockL w4).2)
def row0:Row:=⟨0,0,0,0,0,[],false⟩
def readW (w:List (List UInt8)):Row×Bool :=
 if foldLw (w.getD 0 [])=[108,101,97,112]∧w.length=7 then
  let r:=dateW 0 (w.getD 1 []) (w.getD 2 []) (w.getD 3 []) (w.getD 4 [])
  (⟨r.1.kind,r.1.y,r.1.m,r.1.d,r.1.sec,w.getD 5 [],(rollL (w.getD 6 [])).1⟩,(decide (w.getD 5 []=[43]∨w.getD 5 []=[45])) && r.2 && (rollL (w.getD 6 [])).2)
 else if foldLw (w.getD 0 [])=[101,120,112,105,114,101,115]∧w.length=5 then dateW 1 (w.getD 1 []) (w.getD 2 []) (w.getD 3 []) (w.getD 4 [])
 else (row0,false)
structure Src where
 ls:List LR
 at':Int
 til:Int
def dayN (y m d:Int):Option Int:=if 1≤y∧y≤9999∧1≤m∧m≤12∧1≤d∧d≤dim y m then some (num y m d) else none
def leapW (s:Src) (r:Row) (n:Int):Src×Int :=
 if r.sign=[43]∧r.sec=86400 then (⟨(addT ⟨s.ls,false,0⟩ (n,1,r.roll)).1.ls,s.at',s.til⟩,(addT ⟨s.ls,false,0⟩ (n,1,r.roll)).2)
 else if r.sign=[45]∧r.sec=86399 then (⟨(addT ⟨s.ls,false,0⟩ (n,-1,r.roll)).1.ls,s.at',s.til⟩,(addT ⟨s.ls,false,0⟩ (n,-1,r.roll)).2)
 else (s,6)
def lineW (s:Src) (no:Nat) (w:List (List UInt8)):Src×Int :=
 if (readW w).2=false∨((readW w).1.kind=1∧s.at' > 0) then (s,2)
 else match dayN (readW w).1.y (readW w).1.m (readW w).1.d with
  | none=>(s,9)
  | some n=>if (readW w).1.kind=0 then leapW s (readW w).1 n else if (readW w).1.sec=86400 then (s,9) else (⟨s.ls,no,n * 86400+(readW w).1.sec⟩,0)
def bareL (l:List UInt8):List UInt8:=l.take (nl (· == 35) l)
def tb0:Tb:=⟨[],false,0⟩
def parseE (s:Src):Tb×Int×Int:=if s.at' > 0 then (if rightT ⟨s.ls,true,s.til⟩=true then (⟨s.ls,true,s.til⟩,0,0) else (tb0,s.at',9)) else (⟨s.ls,false,0⟩,0,0)
def parseG:Nat→Src→List (List UInt8)→Tb×Int×Int
 | k,s,[]=>parseE s
 | k,s,x :: r=>if wordsL (bareL x)=[] then parseG (k+1) s r else
   if (lineW s (k+1) (wordsL (bareL x))).2≠0 then (tb0,(k:Int)+1,(lineW s (k+1) (wordsL (bareL x))).2) else parseG (k+1) (lineW s (k+1) (wordsL (bareL x))).1 r
def src0:Src:=⟨[],0,0⟩
def zparseL (s:List UInt8):Tb×Int×Int:=parseG 0 src0 (linesL s)
theorem decode_cont (l:List UInt8) (pos:Nat) (h:pos < l.length) (ha:128≤l[pos].toNat) :
  128≤(Utf8.decode (S l) pos).1∧1≤(Utf8.decode (S l) pos).2∧pos+(Utf8.decode (S l) pos).2≤l.length∧∀ c∈(l.drop pos).take (Utf8.decode (S l) pos).2,128≤c.toNat:=by
 obtain ⟨h1,h2⟩:=decode_hi l pos h ha
 refine ⟨h1,h2,?_⟩
 have g:∀ k (hk:pos+k < l.length),((S l).get! (pos+k)).toNat=l[pos+k].toNat:=fun k hk=>by
  simp [S,ByteArray.get!,hk]
 have one:pos+1≤l.length∧∀ c∈(l.drop pos).take 1,128≤c.toNat:=by
  refine ⟨h,fun c hc=>?_⟩
  rw [List.drop_eq_getElem_cons h,List.take_succ_cons,List.take_zero,List.mem_singleton] at hc
  rw [hc]; exact ha
 have more:∀ w,1≤w→(∀ k,1≤k→k < w→pos+k < l.length∧((S l).get! (pos+k)).toNat / 64=2)→pos+w≤l.length∧∀ c∈(l.drop pos).take w,128≤c.toNat:=fun w hw hk=>by
  have hl:pos+w≤l.length:=by
   by_cases e:w=1
   ·omega
   ·have:=(hk (w - 1) (by omega) (by omega)).1; omega
  refine ⟨hl,fun c hc=>?_⟩
  obtain ⟨i,hi⟩:=List.getElem?_of_mem hc
  rw [List.getElem?_take] at hi
  split at hi
  ·rename_i hiw
   rw [List.getElem?_drop,List.getElem?_eq_getElem (by omega)] at hi
   cases hi
   by_cases e:i=0
   ·subst e; exact ha
   ·obtain ⟨q1,q2⟩:=hk i (by omega) hiw
    rw [g i q1] at q2
    omega
  ·cases hi
 unfold Utf8.decode
 simp only [S_size]
 have c1:∀ k,(decide (pos+k < l.length) && ((S l).get! (pos+k)).toNat / 64 == 2)=true→pos+k < l.length∧((S l).get! (pos+k)).toNat / 64=2:=fun k hk=>by
  simpa using hk
 split
 ·exact one
 ·split
  ·rename_i hc
   simp only [Bool.and_eq_true] at hc
   split
   ·exact more 2 (by omega) fun k k1 k2=>by
     have:k=1:=by omega
     subst this; exact c1 1 (by simp only [Bool.and_eq_true]; exact hc.2)
   ·exact one
  ·split
   ·rename_i hc
    simp only [Bool.and_eq_true] at hc
    split
    ·exact more 3 (by omega) fun k k1 k2=>by
      rcases (show k=1∨k=2 by omega) with rfl | rfl
      ·exact c1 1 (by simp only [Bool.and_eq_true]; exact hc.1.2)
      ·exact c1 2 (by simp only [Bool.and_eq_true]; exact hc.2)
    ·exact one
   ·split
    ·rename_i hc
     simp only [Bool.and_eq_true] at hc
     split
     ·exact more 4 (by omega) fun k k1 k2=>by
       rcases (show k=1∨k=2∨k=3 by omega) with rfl | rfl | rfl
       ·exact c1 1 (by simp only [Bool.and_eq_true]; exact hc.1.1.2)
       ·exact c1 2 (by simp only [Bool.and_eq_true]; exact hc.1.2)
       ·exact c1 3 (by simp only [Bool.and_eq_true]; exact hc.2)
     ·exact one
    ·exact one
def WV (ws:List (List UInt8)):List V:=ws.map fun w=>.c (.string (S w))
theorem WV_len (ws:List (List UInt8)):(WV ws).length=ws.length:=by simp [WV]
theorem WV_app (a b:List (List UInt8)):WV (a++b)=WV a++WV b:=by simp [WV]
theorem asW {ws:List (List UInt8)} {i:Nat} (h:i < ws.length) {F:Prop} {K:ByteArray→Prop} (hk:K (S ws[i])):Eng.asStr (getC (WV ws) i 0) F K:=by
 have:getC (WV ws) i 0=some (.c (.string (S ws[i]))):=by simp [getC,WV,V.cells,h]
 rw [this]; simpa [Eng.asStr] using hk
theorem kS_nil (l:List UInt8):(ByteArray.toList (S l) == ByteArray.toList (ByteArray.mk #[]))=l.isEmpty:=by
 rw [S_toList,show ByteArray.toList (ByteArray.mk #[])=[] from S_toList []]
 cases l <;> rfl
theorem set_mid {α:Type} (a:List α) (x y:α) (b:List α):(a++y :: b).set a.length x=a++x :: b:=by
 induction a with
 | nil=>rfl
 | cons h t ih=>simp
theorem getD_mid {α:Type} (a:List α) (d y:α) (b:List α):(a++y :: b).getD a.length d=y:=by simp
def B8 (l:List UInt8):List V:=l.map fun b=>.c (.int .u8 b.toNat)
theorem B8_len (l:List UInt8):(B8 l).length=l.length:=by simp [B8]
theorem bytesV_S (l:List UInt8):Eng.bytesV (S l)=B8 l:=by simp [Eng.bytesV,B8]
theorem asB8 {l:List UInt8} {i:Nat} (h:i < l.length) {F:Prop} {K:Int→Prop} (hk:K (l[i].toNat:Int)):Eng.asInt .u8 (getC (B8 l) i 0) F K:=by
 have:getC (B8 l) i 0=some (.c (.int .u8 (l[i].toNat:Int))):=by simp [getC,B8,V.cells,h]
 rw [this]; simpa [Eng.asInt] using hk
theorem B8_all (l:List UInt8):Eng.allU8 (B8 l)=true:=by
 simp [Eng.allU8,B8,Eng.isU8]
theorem B8_pack (l:List UInt8):Eng.packB (B8 l)=S l:=by
 have:(l.map fun b=>V.c (.int .u8 (b.toNat:Int))).map Eng.byteOf=l:=by
  rw [List.map_map]
  conv=>rhs; rw [← List.map_id l]
  refine List.map_congr_left fun b _=>?_
  simp [Eng.byteOf]
 unfold Eng.packB B8
 rw [this]
theorem kS_eq (l m:List UInt8):(ByteArray.toList (S l) == ByteArray.toList (S m))=(l == m):=by rw [S_toList,S_toList]
theorem getD_in {α:Type} (l:List α) (i:Nat) (d:α) (h:i < l.length):l.getD i d=l[i]:=by simp [List.getD,h]
theorem asWd {ws:List (List UInt8)} {i:Nat} (h:i < ws.length) {F:Prop} {K:ByteArray→Prop} (hk:K (S (ws.getD i []))):Eng.asStr (getC (WV ws) i 0) F K:=by
 rw [getD_in _ _ _ h] at hk; exact asW h hk
def tupRow (r:Row):Int×Int×Int×Int×Int×ByteArray×Bool×Unit:=(r.kind,r.y,r.m,r.d,r.sec,S r.sign,r.roll,())
theorem two_bd {l:List UInt8} (h:two l=true):0≤(numL l).1∧(numL l).1≤99:=by
 unfold two numL at h
 unfold numL
 split at h
 ·rename_i hc
  rw [if_pos hc]
  simp only [Bool.true_and,decide_eq_true_eq] at h
  have:=valL_lt l (List.all_eq_true.1 hc.2.1)
  have:10 ^ l.length≤10 ^ 2:=Nat.pow_le_pow_right (by omega) h
  omega
 ·simp at h
theorem dneg {p:Prop} [Decidable p] (h:¬ p):¬ (decide p=true):=by simpa using h
def TLV (l:List LR):List V:=l.map eLR
theorem TLV_len (l:List LR):(TLV l).length=l.length:=by simp [TLV]
theorem asL1 {l:List LR} {i:Nat} (h:i < l.length) {F:Prop} {K:Int→Prop} (hk:K (l[i]).1):Eng.asInt .i64 (getC (TLV l) i 0) F K:=by
 have:getC (TLV l) i 0=some (.c (.int .i64 (l[i]).1)):=by simp [getC,TLV,eLR,V.cells,h]
 rw [this]; simpa [Eng.asInt] using hk
theorem asL2 {l:List LR} {i:Nat} (h:i < l.length) {F:Prop} {K:Int→Prop} (hk:K (l[i]).2.1):Eng.asInt .i64 (getC (TLV l) i 1) F K:=by
 have:getC (TLV l) i 1=some (.c (.int .i64 (l[i]).2.1)):=by simp [getC,TLV,eLR,V.cells,h]
 rw [this]; simpa [Eng.asInt] using hk
theorem asL3 {l:List LR} {i:Nat} (h:i < l.length) {F:Prop} {K:Bool→Prop} (hk:K (l[i]).2.2):Eng.asBool (getC (TLV l) i 2) F K:=by
 have:getC (TLV l) i 2=some (.c (.bool (l[i]).2.2)):=by simp [getC,TLV,eLR,V.cells,h]
 rw [this]; simpa [Eng.asBool] using hk
theorem numL_bd (l:List UInt8):0≤(numL l).1∧(numL l).1≤9223372036854775807:=by
 unfold numL; split
 ·rename_i h; simp only; omega
 ·simp
theorem second_bd (a b c:Int):0≤(secondL a b c).1∧(secondL a b c).1≤86400:=by
 unfold secondL; split
 ·simp
 ·split
  ·simp only; omega
  ·simp
theorem zclock_bd (l:List UInt8):0≤(zclockL l).1∧(zclockL l).1≤86400:=by
 unfold zclockL
 split
 ·split
  ·exact second_bd _ _ _
  ·simp
 ·simp
theorem wrongL_0 {k:Nat} {l:LR} {a:Int} (h:wrongL k l a=0):k < 200∧730≤l.1∧l.1 < 2932896∧endD l.1=true∧(l.2.1=1∨l.2.1=-1)∧a < l.1:=by
 unfold wrongL at h
 split at h; · omega
 split at h; · omega
 split at h; · omega
 split at h; · omega
 split at h; · omega
 rename_i h1 h2 h3 h4 h5
 refine ⟨by omega,by omega,by omega,by simpa using h3,by omega,by omega⟩
theorem readW_bd (w:List (List UInt8)):(0≤(readW w).1.sec∧(readW w).1.sec≤86400)∧((readW w).2=true→(readW w).1.kind=0∨(readW w).1.kind=1)∧0≤(readW w).1.d∧(readW w).1.d≤9223372036854775807:=by
 unfold readW
 split
 ·exact ⟨zclock_bd _,fun _=>.inl rfl,numL_bd _⟩
 ·split
  ·exact ⟨zclock_bd _,fun _=>.inr rfl,numL_bd _⟩
  ·refine ⟨?_,fun h=>?_,?_⟩
   ·simp [row0]
   ·simp at h
   ·simp [row0]
theorem add_len (t:Tb) (l:LR):(addT t l).1.ls.length≤t.ls.length+1:=by
 unfold addT; split <;> simp
theorem leapW_len (s:Src) (r:Row) (n:Int):(leapW s r n).1.ls.length≤s.ls.length+1:=by
 unfold leapW
 split
 ·exact add_len _ _
 ·split
  ·exact add_len _ _
  ·simp
theorem lineW_len (s:Src) (no:Nat) (w:List (List UInt8)):(lineW s no w).1.ls.length≤s.ls.length+1:=by
 unfold lineW
 split
 ·simp
 ·split
  ·simp
  ·split
   ·exact leapW_len _ _ _
   ·split <;> simp
end Go.Proofs.YtdjldmolhkkipaaGreatDoor.Pl
end
section
set_option linter.unusedVariables false
set_option linter.unusedSimpArgs false
namespace Go.Proofs.YtdjldmolhkkipaaGreatDoor.Pl
open Go Go.Proofs.YtdjldmolhkkipaaGreatDoor.Eng
def monCap (m:Int):List UInt8:=match (monNames.getD (m - 1).toNat []).take 3 with
 | c :: r=>UInt8.ofNat (c.toNat - 32) :: r
 | []=>[]
def dateWords (kind:List UInt8) (n:Int) (rest:List (List UInt8)):List (List UInt8):=[kind,itoaK (yearP n),monCap (monP n),itoaK (dayP n)]++rest
def joinT (ws:List (List UInt8)):List UInt8:=Lib.join ws [9]
def leapWords (l:LR):List (List UInt8):=dateWords [76,101,97,112] l.1 [if l.2.1 < 0 then [50,51,58,53,57,58,53,57] else [50,51,58,53,57,58,54,48],if l.2.1 < 0 then [45] else [43],if l.2.2=true then [82] else [83]]
def dd (n:Int):List UInt8:=[UInt8.ofNat (48+(n / 10 % 10).toNat),UInt8.ofNat (48+(n % 10).toNat)]
def hms (x:Int):List UInt8:=dd (x / 3600)++58 :: (dd (x / 60 % 60)++58 :: dd (x % 60))
def expWords (ex:Int):List (List UInt8):=dateWords [69,120,112,105,114,101,115] (ex / 86400) [hms (ex % 86400)]
def zlines (t:Tb):List (List (List UInt8)):=t.ls.map leapWords++(if t.has=true then [expWords t.ex] else [])
def ztextB (t:Tb):List UInt8:=((zlines t).map fun ws=>joinT ws++[10]).flatten
def ztextL (t:Tb):List UInt8×Bool:=if rightT t=true then (ztextB t,true) else ([],false)
theorem digsN_val:∀ (k u:Nat),u < 10 ^ (k+1)→(digsN (k+1) u).all isDig=true∧valL (digsN (k+1) u)=u∧digsN (k+1) u≠[]
 | k,u,h=>by
  rw [digsN]
  by_cases e:u < 10
  ·rw [if_pos e]
   have:(UInt8.ofNat (48+u)).toNat=48+u:=by simp; omega
   refine ⟨?_,?_,by simp⟩
   ·simp [isDig,this]; omega
   ·unfold valL; rw [List.foldl_cons,List.foldl_nil,this]; omega
  ·rw [if_neg e]
   cases k with
   | zero=>omega
   | succ k =>
    obtain ⟨h1,h2,h3⟩:=digsN_val k (u / 10) (by rw [Nat.pow_succ] at h; omega)
    have:(UInt8.ofNat (48+u % 10)).toNat=48+u % 10:=by simp; omega
    refine ⟨?_,?_,by simp⟩
    ·rw [List.all_append,h1]; simp [isDig,this]; omega
    ·rw [valL_snoc,h2,this]; omega
theorem itoa_num (n:Int) (h0:0≤n) (h1:n≤9223372036854775807):(itoaK n).all isDig=true∧valL (itoaK n)=n.toNat∧itoaK n≠[]:=by
 unfold itoaK
 rw [if_neg (by omega)]
 exact digsN_val 19 n.toNat (by omega)
theorem numL_itoa (n:Int) (h0:0≤n) (h1:n≤9223372036854775807):numL (itoaK n)=(n,true):=by
 obtain ⟨q1,q2,q3⟩:=itoa_num n h0 h1
 unfold numL
 rw [if_pos ⟨q3,q1,by omega⟩,q2,show ((n.toNat:Nat):Int)=n by omega]
def gw (w:List UInt8):Prop:=w≠[]∧∀ c∈w,blankB c=false∧c≠10∧c≠35∧c≠13
theorem gw_digs {w:List UInt8} (h:w.all isDig=true) (hn:w≠[]):gw w:=by
 refine ⟨hn,fun c hc=>?_⟩
 have:=List.all_eq_true.1 h c hc
 simp only [isDig,Bool.and_eq_true,decide_eq_true_eq] at this
 refine ⟨?_,?_,?_,?_⟩
 ·unfold blankB
  rw [Bool.or_eq_false_iff]
  constructor <;> (rw [beq_eq_false_iff_ne]; intro e; subst e; revert this; decide)
 all_goals (intro e; subst e; revert this; decide)
theorem gw_itoa (n:Int) (h0:0≤n) (h1:n≤9223372036854775807):gw (itoaK n):=by
 obtain ⟨q1,q2,q3⟩:=itoa_num n h0 h1
 exact gw_digs q1 q3
def gwB (w:List UInt8):Bool:=!w.isEmpty && w.all fun c=>!blankB c && c != 10 && c != 35 && c != 13
theorem gw_of {w:List UInt8} (h:gwB w=true):gw w:=by
 unfold gwB at h
 rw [Bool.and_eq_true] at h
 refine ⟨by intro e; rw [e] at h; simp at h,fun c hc=>?_⟩
 have:=List.all_eq_true.1 h.2 c hc
 simpa [and_assoc] using this
theorem join_cons (w v:List UInt8) (r:List (List UInt8)):joinT (w :: v :: r)=w++9 :: joinT (v :: r):=by
 simp [joinT,Lib.join,List.intercalate,List.intersperse]
theorem join_one (w:List UInt8):joinT [w]=w:=by simp [joinT,Lib.join,List.intercalate,List.intersperse]
theorem words_join:∀ (ws:List (List UInt8)),ws≠[]→(∀ w∈ws,gw w)→wordsL (joinT ws)=ws
 | [],h,_=>absurd rfl h
 | [w],_,h=>by
  obtain ⟨h1,h2⟩:=h w (.head _)
  rw [join_one]
  have:=wd_skip w [] [] (fun c hc=>(h2 c hc).1)
  rw [List.append_nil,List.nil_append] at this
  unfold wordsL
  rw [this,wd,if_neg h1]
 | w :: v :: r,_,h=>by
  obtain ⟨h1,h2⟩:=h w (.head _)
  have ih:=words_join (v :: r) (by simp) (fun x hx=>h x (.tail _ hx))
  unfold wordsL at ih ⊢
  rw [join_cons,wd_skip w [] _ (fun c hc=>(h2 c hc).1),List.nil_append,wd,if_pos (by rfl),if_neg h1,ih]
theorem join_mem:∀ (ws:List (List UInt8)) (c:UInt8),c∈joinT ws→c=9∨∃ w∈ws,c∈w
 | [],c,h=>by simp [joinT,Lib.join,List.intercalate,List.intersperse] at h
 | [w],c,h=>by rw [join_one] at h; exact .inr ⟨w,.head _,h⟩
 | w :: v :: r,c,h=>by
  rw [join_cons,List.mem_append,List.mem_cons] at h
  rcases h with h | h | h
  ·exact .inr ⟨w,.head _,h⟩
  ·exact .inl h
  ·rcases join_mem (v :: r) c h with h | ⟨x,hx,hc⟩
   ·exact .inl h
   ·exact .inr ⟨x,.tail _ hx,hc⟩
theorem join_not {ws:List (List UInt8)} (h:∀ w∈ws,gw w):(10:UInt8)∉joinT ws∧(13:UInt8)∉joinT ws∧(35:UInt8)∉joinT ws:=by
 have key:∀ c:UInt8,c=10∨c=13∨c=35→c∉joinT ws:=fun c hc hm=>by
  rcases join_mem ws c hm with h9 | ⟨w,hw,hcw⟩
  ·subst h9; revert hc; decide
  ·obtain ⟨_,q2,q3,q4⟩:=(h w hw).2 c hcw
   rcases hc with rfl | rfl | rfl
   ·exact q2 rfl
   ·exact q4 rfl
   ·exact q3 rfl
 exact ⟨key 10 (.inl rfl),key 13 (.inr (.inl rfl)),key 35 (.inr (.inr rfl))⟩
theorem spl_flat:∀ (xs:List (List UInt8)),(∀ x∈xs,(10:UInt8)∉x)→spl 10 (xs.map (·++[10])).flatten=xs++[[]]
 | [],_=>rfl
 | x :: r,h=>by
  rw [List.map_cons,List.flatten_cons,List.append_assoc,List.singleton_append,spl_app 10 x _ (h x (.head _)),spl_flat r (fun y hy=>h y (.tail _ hy))]; rfl
theorem trimR_id {l:List UInt8} (h:(13:UInt8)∉l):trimR l=l:=by
 unfold trimR
 rw [if_neg]
 intro hh
 exact h (List.mem_of_getLast? hh)
theorem lines_flat (xs:List (List UInt8)) (h:∀ x∈xs,(10:UInt8)∉x):linesL (xs.map (·++[10])).flatten=xs.map trimR:=by
 unfold linesL
 rw [spl_flat xs h]
 simp
theorem map_id_of {α:Type} {f:α→α}:∀ (l:List α),(∀ x∈l,f x=x)→l.map f=l
 | [],_=>rfl
 | x :: r,h=>by rw [List.map_cons,h x (.head _),map_id_of r fun y hy=>h y (.tail _ hy)]
theorem bare_id {l:List UInt8} (h:(35:UInt8)∉l):bareL l=l:=by
 unfold bareL
 have:nl (· == (35:UInt8)) l=l.length:=nl_of _ l l.length (Nat.le_refl _) (fun c hc=>by
  rw [List.take_length] at hc
  simp only [beq_eq_false_iff_ne]; intro e; subst e; exact h hc) (fun hh=>absurd hh (Nat.lt_irrefl _))
 rw [this,List.take_length]
theorem mon_cap {m:Int} (h1:1≤m) (h2:m≤12):monthL (monCap m)=(m,true)∧gw (monCap m):=by
 have key:∀ k:Nat,k < 12→monthL (monCap ((k:Int)+1))=((k:Int)+1,true)∧gwB (monCap ((k:Int)+1))=true:=by decide +kernel
 have:=key (m - 1).toNat (by omega)
 rw [show (((m - 1).toNat:Nat):Int)+1=m by omega] at this
 exact ⟨this.1,gw_of this.2⟩
theorem dd_ok {n:Int} (h0:0≤n) (h1:n≤99):two (dd n)=true∧(numL (dd n)).1=n∧(58:UInt8)∉dd n∧gw (dd n):=by
 have key:∀ k:Nat,k < 100→(two (dd (k:Int))=true∧(numL (dd (k:Int))).1=(k:Int)∧(dd (k:Int)).contains 58=false)∧gwB (dd (k:Int))=true:=by decide +kernel
 have:=key n.toNat (by omega)
 rw [show ((n.toNat:Nat):Int)=n by omega] at this
 exact ⟨this.1.1,this.1.2.1,by simpa using this.1.2.2,gw_of this.2⟩
theorem splN_app (c:UInt8) (k:Nat):∀ (a r:List UInt8),c∉a→splN c (k+1) (a++c :: r)=a :: splN c k r:=fun a r h=>by
 have hn:nl (· == c) (a++c :: r)=a.length:=nl_of _ _ a.length (by simp) (fun x hx=>by
  rw [List.take_left] at hx
  simp only [beq_eq_false_iff_ne]; intro e; subst e; exact h hx) (fun hh=>by simp)
 rw [splN,hn,if_pos (by simp)]
 simp
theorem clock_hms {x:Int} (h0:0≤x) (h1:x < 86400):zclockL (hms x)=(x,true)∧gw (hms x):=by
 obtain ⟨a1,a2,a3,a4⟩:=dd_ok (n:=x / 3600) (by omega) (by omega)
 obtain ⟨b1,b2,b3,b4⟩:=dd_ok (n:=x / 60 % 60) (by omega) (by omega)
 obtain ⟨c1,c2,c3,c4⟩:=dd_ok (n:=x % 60) (by omega) (by omega)
 constructor
 ·unfold zclockL hms
  rw [splN_app 58 1 _ _ a3,splN_app 58 0 _ _ b3,splN]
  dsimp only
  rw [if_pos (by rw [a1,b1,c1]; rfl),a2,b2,c2]
  unfold secondL
  rw [if_neg (by omega),if_pos (by omega)]
  rw [show x / 3600 * 3600+x / 60 % 60 * 60+x % 60=x by omega]
 ·refine ⟨by simp [hms,dd],fun c hc=>?_⟩
  have g58:blankB 58=false∧(58:UInt8)≠10∧(58:UInt8)≠35∧(58:UInt8)≠13:=by decide
  unfold hms at hc
  simp only [List.mem_append,List.mem_cons] at hc
  rcases hc with hc | rfl | hc | rfl | hc
  ·exact a4.2 c hc
  ·exact g58
  ·exact b4.2 c hc
  ·exact g58
  ·exact c4.2 c hc
theorem date_good {kind:List UInt8} {n:Int} {rest:List (List UInt8)} (hn:-719162≤n∧n≤2932896) (hk:gw kind) (hr:∀ w∈rest,gw w):∀ w∈dateWords kind n rest,gw w:=by
 obtain ⟨⟨v1,v2,v3,v4,v5,v6⟩,_⟩:=num_date hn.1 hn.2
 have:=dim_bd (yearP n) (monP n)
 intro w hw
 unfold dateWords at hw
 simp only [List.cons_append,List.nil_append,List.mem_cons] at hw
 rcases hw with rfl | rfl | rfl | rfl | hw
 ·exact hk
 ·exact gw_itoa _ (by omega) (by omega)
 ·exact (mon_cap v3 v4).2
 ·exact gw_itoa _ (by omega) (by omega)
 ·exact hr w hw
theorem date_read {k:Int} {n:Int} (hn:-719162≤n∧n≤2932896) (c:List UInt8):dateW k (itoaK (yearP n)) (monCap (monP n)) (itoaK (dayP n)) c=(⟨k,yearP n,monP n,dayP n,(zclockL c).1,[],false⟩,(zclockL c).2):=by
 obtain ⟨⟨v1,v2,v3,v4,v5,v6⟩,_⟩:=num_date hn.1 hn.2
 have:=dim_bd (yearP n) (monP n)
 unfold dateW
 rw [numL_itoa _ (by omega) (by omega),numL_itoa _ (by omega) (by omega),(mon_cap v3 v4).1]
 simp
theorem dayN_of {n:Int} (hn:-719162≤n∧n≤2932896):dayN (yearP n) (monP n) (dayP n)=some n:=by
 obtain ⟨v,e⟩:=num_date hn.1 hn.2
 unfold dayN
 have v':1≤yearP n∧yearP n≤9999∧1≤monP n∧monP n≤12∧1≤dayP n∧dayP n≤dim (yearP n) (monP n):=v
 rw [if_pos v',e]
theorem leap_good {l:LR} (hn:-719162≤l.1∧l.1≤2932896):∀ w∈leapWords l,gw w:=by
 refine date_good hn (gw_of rfl) fun w hw=>?_
 simp only [List.mem_cons,List.not_mem_nil,or_false] at hw
 rcases hw with rfl | rfl | rfl <;> split <;> exact gw_of rfl
theorem exp_good {ex:Int} (h0:0≤ex) (h1:ex≤253402300799):∀ w∈expWords ex,gw w:=by
 refine date_good (by omega) (gw_of rfl) fun w hw=>?_
 simp only [List.mem_cons,List.not_mem_nil,or_false] at hw
 subst hw
 exact (clock_hms (by omega) (by omega)).2
theorem lineW_leap (s:Src) (no:Nat) {l:LR} (hn:-719162≤l.1∧l.1≤2932896) (hs:l.2.1=1∨l.2.1=-1) :
  lineW s no (leapWords l)=(⟨(addT ⟨s.ls,false,0⟩ l).1.ls,s.at',s.til⟩,(addT ⟨s.ls,false,0⟩ l).2):=by
 have c6:zclockL [50,51,58,53,57,58,54,48]=(86400,true):=by decide +kernel
 have c5:zclockL [50,51,58,53,57,58,53,57]=(86399,true):=by decide +kernel
 have hroll:∀ b:Bool,rollL (if b=true then [82] else [83])=(b,true):=by decide +kernel
 obtain ⟨n,st,ro⟩:=l
 have hr:readW (leapWords (n,st,ro))=(⟨0,yearP n,monP n,dayP n,if st < 0 then 86399 else 86400,if st < 0 then [45] else [43],ro⟩,true):=by
  unfold readW
  rw [if_pos ⟨by rfl,rfl⟩]
  have e1:(leapWords (n,st,ro)).getD 1 []=itoaK (yearP n):=rfl
  have e2:(leapWords (n,st,ro)).getD 2 []=monCap (monP n):=rfl
  have e3:(leapWords (n,st,ro)).getD 3 []=itoaK (dayP n):=rfl
  have e4:(leapWords (n,st,ro)).getD 4 []=if st < 0 then [50,51,58,53,57,58,53,57] else [50,51,58,53,57,58,54,48]:=rfl
  have e5:(leapWords (n,st,ro)).getD 5 []=if st < 0 then [45] else [43]:=rfl
  have e6:(leapWords (n,st,ro)).getD 6 []=if ro=true then [82] else [83]:=rfl
  rw [e1,e2,e3,e4,e5,e6,date_read hn,hroll]
  rcases hs with hs | hs <;> (have hs:st=_:=hs; subst hs; simp [c5,c6])
 unfold lineW
 rw [hr,if_neg (by simp)]
 dsimp only
 rw [dayN_of hn]
 dsimp only
 rw [if_pos rfl]
 unfold leapW
 rcases hs with hs | hs <;> (have hs:st=_:=hs; subst hs; simp)
theorem lineW_exp (s:Src) (no:Nat) {ex:Int} (h0:0≤ex) (h1:ex≤253402300799) (ha:¬ s.at' > 0):lineW s no (expWords ex)=(⟨s.ls,no,ex⟩,0):=by
 have hn:-719162≤ex / 86400∧ex / 86400≤2932896:=by omega
 have hr:readW (expWords ex)=(⟨1,yearP (ex / 86400),monP (ex / 86400),dayP (ex / 86400),ex % 86400,[],false⟩,true):=by
  unfold readW
  rw [if_neg (fun hh=>absurd (show 5=7 from hh.2) (by decide)),if_pos ⟨by rfl,rfl⟩]
  have e1:(expWords ex).getD 1 []=itoaK (yearP (ex / 86400)):=rfl
  have e2:(expWords ex).getD 2 []=monCap (monP (ex / 86400)):=rfl
  have e3:(expWords ex).getD 3 []=itoaK (dayP (ex / 86400)):=rfl
  have e4:(expWords ex).getD 4 []=hms (ex % 86400):=rfl
  rw [e1,e2,e3,e4,date_read hn,(clock_hms (by omega) (by omega)).1]
 unfold lineW
 rw [hr,if_neg (by simp; omega)]
 dsimp only
 rw [dayN_of hn]
 dsimp only
 rw [if_neg (by omega),if_neg (by omega),show ex / 86400 * 86400+ex % 86400=ex by omega]
theorem checkG_app:∀ (p q:List LR) (k:Nat) (a:Int),(checkG k a (p++q)).2.1=0→(checkG k a p).2.1=0
 | [],q,k,a,h=>rfl
 | l :: p,q,k,a,h=>by
  rw [List.cons_append,checkG] at h
  rw [checkG]
  split at h
  ·rename_i hw; exact absurd h hw
  ·rename_i hw; rw [if_neg hw]; exact checkG_app p q _ _ h
theorem checkG_all:∀ (p:List LR) (k:Nat) (a:Int),(checkG k a p).2.1=0→∀ l∈p,730≤l.1∧l.1 < 2932896∧(l.2.1=1∨l.2.1=-1)
 | [],k,a,h,l,hl=>by cases hl
 | x :: p,k,a,h,l,hl=>by
  rw [checkG] at h
  split at h
  ·rename_i hw; exact absurd h hw
  ·rename_i hw
   have hw:wrongL k x a=0:=by omega
   obtain ⟨_,q1,q2,_,q3,_⟩:=wrongL_0 hw
   cases hl with
   | head=>exact ⟨q1,q2,q3⟩
   | tail _ hl=>exact checkG_all p _ _ h l hl
theorem right_0 {t:Tb} (h:rightT t=true):(checkG 0 729 t.ls).2.1=0∧expB t.has t.ex (checkG 0 729 t.ls).2.2=0:=by
 unfold rightT checkT at h
 rw [beq_iff_eq] at h
 split at h
 ·rename_i hw; exact absurd h hw
 ·rename_i hw; exact ⟨by omega,h⟩
theorem expB_no (a:Int):expB false 0 a=0:=rfl
theorem right_ex {t:Tb} (h:rightT t=true):(t.has=false→t.ex=0)∧(t.has=true→63072000≤t.ex∧t.ex≤253402300799):=by
 obtain ⟨h1,h2⟩:=right_0 h
 unfold expB at h2
 constructor
 ·intro hh
  rw [hh,if_neg (by simp)] at h2
  split at h2 <;> omega
 ·intro hh
  rw [hh,if_pos rfl] at h2
  split at h2
  ·omega
  ·split at h2 <;> omega
theorem addT_ok {ls:List LR} {l:LR} (h:(checkG 0 729 (ls++[l])).2.1=0):addT ⟨ls,false,0⟩ l=(⟨ls++[l],false,0⟩,0):=by
 have:(checkT ⟨ls++[l],false,0⟩).2=0:=by
  unfold checkT
  rw [if_neg (fun hn=>hn h)]
  exact expB_no (checkG 0 729 (ls++[l])).2.2
 unfold addT
 rw [if_neg (fun hn=>hn this)]
theorem addT_good {ls:List LR} {l:LR} (h:(checkG 0 729 ls).2.1=0):(checkG 0 729 (addT ⟨ls,false,0⟩ l).1.ls).2.1=0:=by
 unfold addT
 split
 ·exact h
 ·rename_i hc
  unfold checkT at hc
  split at hc
  ·rename_i hw; exact absurd hw (by omega)
  ·rename_i hw; dsimp only at hw ⊢; omega
theorem parseG_step (k:Nat) (s:Src) (ws:List (List UInt8)) (rest:List (List UInt8)) (h1:ws≠[]) (h2:∀ w∈ws,gw w):parseG k s (joinT ws :: rest) =
  if (lineW s (k+1) ws).2≠0 then (tb0,(k:Int)+1,(lineW s (k+1) ws).2) else parseG (k+1) (lineW s (k+1) ws).1 rest:=by
 rw [parseG,bare_id (join_not h2).2.2,words_join ws h1 h2,if_neg h1]
theorem parse_leaps:∀ (q p:List LR) (k:Nat) (a t:Int) (rest:List (List UInt8)),(checkG 0 729 (p++q)).2.1=0 →
  parseG k ⟨p,a,t⟩ ((q.map leapWords).map joinT++rest)=parseG (k+q.length) ⟨p++q,a,t⟩ rest
 | [],p,k,a,t,rest,h=>by simp
 | l :: q,p,k,a,t,rest,h=>by
  obtain ⟨q1,q2,q3⟩:=checkG_all _ _ _ h l (by simp)
  have h':(checkG 0 729 (p++[l])).2.1=0:=checkG_app (p++[l]) q _ _ (by simpa using h)
  have hn:-719162≤l.1∧l.1≤2932896:=by omega
  rw [List.map_cons,List.map_cons,List.cons_append,parseG_step _ _ _ _ (by simp [leapWords,dateWords]) (leap_good hn),lineW_leap _ _ hn q3]
  dsimp only
  rw [addT_ok h',if_neg (by simp)]
  dsimp only
  rw [parse_leaps q (p++[l]) _ _ _ _ (by simpa using h)]
  simp [Nat.add_assoc,Nat.add_comm 1]
theorem lines_text {t:Tb} (h:rightT t=true):linesL (ztextB t)=(zlines t).map joinT:=by
 obtain ⟨h1,h2⟩:=right_0 h
 have good:∀ ws∈zlines t,∀ w∈ws,gw w:=fun ws hws=>by
  unfold zlines at hws
  rw [List.mem_append] at hws
  rcases hws with hws | hws
  ·obtain ⟨l,hl,rfl⟩:=List.mem_map.1 hws
   obtain ⟨q1,q2,q3⟩:=checkG_all _ _ _ h1 l hl
   exact leap_good (by omega)
  ·split at hws
   ·rename_i hh
    obtain ⟨x1,x2⟩:=(right_ex h).2 hh
    simp only [List.mem_singleton] at hws
    subst hws
    exact exp_good (by omega) (by omega)
   ·cases hws
 unfold ztextB
 have e:((zlines t).map fun ws=>joinT ws++[10])=((zlines t).map joinT).map (·++[10]):=by rw [List.map_map]; rfl
 rw [e,lines_flat _ (fun x hx=>by
  obtain ⟨ws,hws,rfl⟩:=List.mem_map.1 hx
  exact (join_not (good ws hws)).1)]
 exact map_id_of _ fun x hx=>by
  obtain ⟨ws,hws,rfl⟩:=List.mem_map.1 hx
  exact trimR_id (join_not (good ws hws)).2.1
theorem zparse_text {t:Tb} (h:rightT t=true):zparseL (ztextB t)=(t,0,0):=by
 obtain ⟨h1,h2⟩:=right_0 h
 obtain ⟨x1,x2⟩:=right_ex h
 unfold zparseL
 rw [lines_text h]
 unfold zlines
 rw [List.map_append,src0,parse_leaps t.ls [] 0 0 0 _ (by simpa using h1),List.nil_append]
 obtain ⟨ls,has,ex⟩:=t
 dsimp only at *
 cases has
 ·rw [x1 rfl,if_neg (by simp),List.map_nil,parseG]
  rfl
 ·obtain ⟨y1,y2⟩:=x2 rfl
  rw [if_pos rfl,List.map_cons,List.map_nil,parseG_step _ _ _ _ (by simp [expWords,dateWords]) (exp_good (by omega) (by omega)),lineW_exp _ _ (by omega) (by omega) (by simp),if_neg (by simp),parseG]
  unfold parseE
  dsimp only
  rw [if_pos (by omega),if_pos h]
theorem lineW_at (s:Src) (no:Nat) (w:List (List UInt8)) (h:0≤s.at'∧s.at'≤no):0≤(lineW s no w).1.at'∧(lineW s no w).1.at'≤no:=by
 unfold lineW
 split
 ·exact h
 ·split
  ·exact h
  ·split
   ·unfold leapW
    split
    ·exact h
    ·split <;> exact h
   ·split
    ·exact h
    ·exact ⟨by simp,by simp⟩
end Go.Proofs.YtdjldmolhkkipaaGreatDoor.Pl
end
section
set_option linter.unusedVariables false
set_option linter.unusedSimpArgs false
namespace Go.Proofs.YtdjldmolhkkipaaGreatDoor.Pl
open Go Go.Proofs.YtdjldmolhkkipaaGreatDoor.Eng
def isHex (c:UInt8):Bool:=(48≤c.toNat && c.toNat≤57) || (97≤c.toNat && c.toNat≤102) || (65≤c.toNat && c.toNat≤70)
def hexD (c:UInt8):Nat:=if c.toNat≤57 then c.toNat - 48 else if 97≤c.toNat then c.toNat - 87 else c.toNat - 55
def hexV (l:List UInt8):Nat:=l.foldl (fun n c=>16 * n+hexD c) 0
def wordOk (l:List UInt8):Bool:=decide (1≤l.length∧l.length≤8) && l.all isHex
def hashOk (s:List UInt8):Bool:=(wordsL s).length == 5 && (wordsL s).all wordOk
def hashW (s:List UInt8) (k:Nat):W32:=if hashOk s=true then BitVec.ofNat 32 (hexV ((wordsL s).getD k [])) else 0
def dW (w:Nat→W32) (k:Nat):UInt8:=UInt8.ofNat ((w (k / 4)).toNat / 2 ^ (24 - 8 * (k % 4)))
def partW (w:Nat→W32) (k:Nat):List UInt8:=((hexN (dW w) 20).drop (8 * k)).take 8
def ntextL (w:Nat→W32):List UInt8:=Lib.join ((List.range 5).map (partW w)) [32]
structure LW where
 kd:List UInt8
 ws:List (List UInt8)
 ns:List Int
 ok:Bool
abbrev kStamp:List UInt8:=[35,36]
abbrev kExp:List UInt8:=[35,64]
abbrev kHash:List UInt8:=[35,104]
abbrev kRem:List UInt8:=[35]
def numsR (kd s:List UInt8) (many:Nat):LW :=
 ⟨kd,if ((wordsL s).all fun w=>(numL w).2)=true∧(wordsL s).length=many then wordsL s else [],(wordsL s).map fun w=>(numL w).1,((wordsL s).all fun w=>(numL w).2) && (wordsL s).length == many⟩
def readL (s:List UInt8):LW :=
 if wordsL s=[] then ⟨kRem,[],[],true⟩
 else if s.take 2=kStamp∨s.take 2=kExp then numsR (s.take 2) (s.drop 2) 1
 else if s.take 2=kHash then ⟨kHash,[],[],hashOk (s.drop 2)⟩
 else if preB ((wordsL s).getD 0 []) kRem=true then ⟨kRem,[],[],true⟩
 else numsR [] (bareL s) 2
def kindsL:List (List UInt8):=[kStamp,kExp,[]]
def hashedK (kd:List UInt8) (R:List LW):List UInt8:=(R.map fun r=>if r.kd=kd then r.ws.flatten else []).flatten
def hashedL (R:List LW):List UInt8:=hashedK kStamp R++(hashedK kExp R++hashedK [] R)
def rowsL (s:List UInt8):List LW:=(linesL s).map readL
def hashL (s:List UInt8):Nat→UInt8:=digest (hashedL (rowsL s))
structure LS where
 ls:List LR
 off:Int
 bg:Bool
 a1:Int
 a2:Int
 a3:Int
def ls0:LS:=⟨[],0,false,0,0,0⟩
def dataL (s:LS) (n o:Int):LS×Int :=
 if s.bg=false then (if n - 2208988800≠63072000∨o≠10 then (s,9) else (⟨s.ls,o,true,s.a1,s.a2,s.a3⟩,0))
 else if (n - 2208988800) % 86400≠0 then (s,5)
 else if o - s.off≠1∧o - s.off≠-1 then (s,6)
 else (⟨(addT ⟨s.ls,false,0⟩ ((n - 2208988800) / 86400 - 1,o - s.off,false)).1.ls,o,true,s.a1,s.a2,s.a3⟩,(addT ⟨s.ls,false,0⟩ ((n - 2208988800) / 86400 - 1,o - s.off,false)).2)
def lineL (s:LS) (no:Nat) (r:LW):LS×Int :=
 if r.ok=false then (s,2)
 else if r.kd=kStamp then (if s.a1 > 0 then (s,2) else (⟨s.ls,s.off,s.bg,no,s.a2,s.a3⟩,0))
 else if r.kd=kExp then (if s.a2 > 0 then (s,2) else (⟨s.ls,s.off,s.bg,s.a1,no,s.a3⟩,0))
 else if r.kd=kHash then (if s.a3 > 0 then (s,2) else (⟨s.ls,s.off,s.bg,s.a1,s.a2,no⟩,0))
 else if r.kd=[] then dataL s (r.ns.getD 0 0) (r.ns.getD 1 0)
 else (s,0)
def goL:Nat→LS→List LW→LS×Int×Int
 | _,s,[]=>(s,0,0)
 | k,s,r :: rest=>if (lineL s (k+1) r).2≠0 then (s,(k:Int)+1,(lineL s (k+1) r).2) else goL (k+1) (lineL s (k+1) r).1 rest
def lw0:LW:=⟨[],[],[],false⟩
def same5L (w v:Nat→W32):Bool:=w 0 == v 0 && w 1 == v 1 && w 2 == v 2 && w 3 == v 3 && w 4 == v 4
def endL (L:List (List UInt8)) (R:List LW) (g:LS):Tb×Int×Int :=
 if g.bg=false then (tb0,(R.length:Int)+1,2)
 else if g.a2 > 0∧rightT ⟨g.ls,true,(R.getD (g.a2.toNat - 1) lw0).ns.getD 0 0 - 2208988800⟩=false then (tb0,g.a2,9)
 else if g.a3 > 0∧same5L (hashW ((L.getD (g.a3.toNat - 1) []).drop 2)) (wordsOf (digest (hashedL R)))=false then (tb0,g.a3,3)
 else (if g.a2 > 0 then ⟨g.ls,true,(R.getD (g.a2.toNat - 1) lw0).ns.getD 0 0 - 2208988800⟩ else ⟨g.ls,false,0⟩,0,0)
def lparseL (s:List UInt8):Tb×Int×Int :=
 if (goL 0 ls0 (rowsL s)).2.2≠0 then (tb0,(goL 0 ls0 (rowsL s)).2.1,(goL 0 ls0 (rowsL s)).2.2) else endL (linesL s) (rowsL s) (goL 0 ls0 (rowsL s)).1
def lpairL (p o:Int):List UInt8:=itoaK (p+2208988800)++9 :: itoaK o
def offsL:Int→List LR→List (List UInt8)
 | _,[]=>[]
 | o,l :: r=>lpairL ((l.1+1) * 86400) (o+l.2.1) :: offsL (o+l.2.1) r
def offOk:Int→List LR→Bool
 | _,[]=>true
 | o,l :: r=>!l.2.2 && decide (0≤o+l.2.1) && offOk (o+l.2.1) r
def ahead (t:Tb) (wh:Int):List (List UInt8):=(kStamp++9 :: itoaK wh) :: ((if t.has=true then [kExp++9 :: itoaK (t.ex+2208988800)] else [])++lpairL 63072000 10 :: offsL 10 t.ls)
def textOf (ls:List (List UInt8)):List UInt8:=(ls.map (·++[10])).flatten
def ltextB (t:Tb) (wh:Int):List UInt8:=textOf (ahead t wh)++(kHash++9 :: ntextL (wordsOf (hashL (textOf (ahead t wh)))))++[10]
def ltextL (t:Tb) (wh:Int):List UInt8×Bool:=if rightT t=true∧0≤wh∧offOk 10 t.ls=true then (ltextB t wh,true) else ([],false)
end Go.Proofs.YtdjldmolhkkipaaGreatDoor.Pl
end
section
set_option linter.unusedVariables false
set_option linter.unusedSimpArgs false
namespace Go.Proofs.YtdjldmolhkkipaaGreatDoor.Pl
open Go Go.Proofs.YtdjldmolhkkipaaGreatDoor.Eng
theorem hexC_hex:∀ a:Fin 16,isHex (hexC a.val)=true∧hexD (hexC a.val)=a.val∧blankB (hexC a.val)=false∧hexC a.val≠10∧hexC a.val≠13∧hexC a.val≠35:=by decide
theorem hexC_ok (n:Nat) (h:n < 16):isHex (hexC n)=true∧hexD (hexC n)=n∧blankB (hexC n)=false∧hexC n≠10∧hexC n≠13∧hexC n≠35:=hexC_hex ⟨n,h⟩
theorem hexN_all (d:Nat→UInt8):∀ n,∀ c∈hexN d n,∃ a,a < 16∧c=hexC a
 | 0,c,h=>by cases h
 | n+1,c,h=>by
  have hl:=(d n).toNat_lt
  rw [show hexN d (n+1)=hexN d n++[hexC ((d n).toNat / 16),hexC ((d n).toNat % 16)] from rfl,List.mem_append] at h
  rcases h with h | h
  ·exact hexN_all d n c h
  ·simp only [List.mem_cons,List.not_mem_nil,or_false] at h
   rcases h with rfl | rfl
   ·exact ⟨_,by omega,rfl⟩
   ·exact ⟨_,by omega,rfl⟩
theorem hexN_len' (d:Nat→UInt8):∀ n,(hexN d n).length=2 * n
 | 0=>rfl
 | n+1=>by
  rw [show hexN d (n+1)=hexN d n++[hexC ((d n).toNat / 16),hexC ((d n).toNat % 16)] from rfl,List.length_append,hexN_len' d n]; simp; omega
theorem partW_len (w:Nat→W32) (k:Nat) (h:k < 5):(partW w k).length=8:=by
 unfold partW; rw [List.length_take,List.length_drop,hexN_len']; omega
theorem partW_mem (w:Nat→W32) (k:Nat):∀ c∈partW w k,∃ a,a < 16∧c=hexC a:=fun c h=>hexN_all _ 20 c (List.mem_of_mem_drop (List.mem_of_mem_take h))
theorem part_eq (w:Nat→W32) (k:Nat) (h:k < 5):partW w k=[hexC ((dW w (4 * k)).toNat / 16),hexC ((dW w (4 * k)).toNat % 16),hexC ((dW w (4 * k+1)).toNat / 16),hexC ((dW w (4 * k+1)).toNat % 16),hexC ((dW w (4 * k+2)).toNat / 16),hexC ((dW w (4 * k+2)).toNat % 16),hexC ((dW w (4 * k+3)).toNat / 16),hexC ((dW w (4 * k+3)).toNat % 16)]:=by
 exact match k,h with
 | 0,_=>by kernel_rfl
 | 1,_=>by kernel_rfl
 | 2,_=>by kernel_rfl
 | 3,_=>by kernel_rfl
 | 4,_=>by kernel_rfl
 | n+5,h=>by omega
theorem dW_val (w:Nat→W32) (k j:Nat) (hj:j < 4):(dW w (4 * k+j)).toNat=(w k).toNat / 2 ^ (24 - 8 * j) % 256:=by
 unfold dW
 rw [UInt8.toNat_ofNat',show (4 * k+j) / 4=k by omega,show (4 * k+j) % 4=j by omega]
theorem hexV_part (w:Nat→W32) (k:Nat) (h:k < 5):hexV (partW w k)=(w k).toNat:=by
 have hw:=(w k).isLt
 have e0:(dW w (4 * k)).toNat=(w k).toNat / 16777216 % 256:=dW_val w k 0 (by omega)
 have e1:(dW w (4 * k+1)).toNat=(w k).toNat / 65536 % 256:=dW_val w k 1 (by omega)
 have e2:(dW w (4 * k+2)).toNat=(w k).toNat / 256 % 256:=dW_val w k 2 (by omega)
 have e3:(dW w (4 * k+3)).toNat=(w k).toNat / 1 % 256:=dW_val w k 3 (by omega)
 rw [part_eq w k h,e0,e1,e2,e3]
 unfold hexV
 simp only [List.foldl_cons,List.foldl_nil]
 rw [(hexC_ok _ (by omega)).2.1,(hexC_ok _ (by omega)).2.1,(hexC_ok _ (by omega)).2.1,(hexC_ok _ (by omega)).2.1,(hexC_ok _ (by omega)).2.1,(hexC_ok _ (by omega)).2.1,(hexC_ok _ (by omega)).2.1,(hexC_ok _ (by omega)).2.1]
 omega
theorem ntext_eq (w:Nat→W32):ntextL w=partW w 0++32 :: (partW w 1++32 :: (partW w 2++32 :: (partW w 3++32 :: partW w 4))):=by
 unfold ntextL
 rw [show (List.range 5).map (partW w)=[partW w 0,partW w 1,partW w 2,partW w 3,partW w 4] from rfl]
 simp [Lib.join,List.intercalate,List.intersperse]
theorem part_blank (w:Nat→W32) (k:Nat):∀ c∈partW w k,blankB c=false:=fun c h=>by
 obtain ⟨a,ha,rfl⟩:=partW_mem w k c h
 exact (hexC_ok a ha).2.2.1
theorem wd_one (a r:List UInt8) (h:∀ c∈a,blankB c=false) (hne:a≠[]):wd [] (a++32 :: r)=a :: wd [] r:=by
 rw [wd_skip a [] _ h,List.nil_append,wd,if_pos (by rfl),if_neg hne]
theorem words_hash (w:Nat→W32):wordsL (9 :: ntextL w)=[partW w 0,partW w 1,partW w 2,partW w 3,partW w 4]:=by
 have ne:∀ k,k < 5→partW w k≠[]:=fun k hk q=>by have:=partW_len w k hk; rw [q] at this; cases this
 unfold wordsL
 rw [wd,if_pos (by rfl),if_pos rfl,ntext_eq,wd_one _ _ (part_blank w 0) (ne 0 (by omega)),wd_one _ _ (part_blank w 1) (ne 1 (by omega)),wd_one _ _ (part_blank w 2) (ne 2 (by omega)),wd_one _ _ (part_blank w 3) (ne 3 (by omega))]
 have:=wd_skip (partW w 4) [] [] (part_blank w 4)
 rw [List.append_nil,List.nil_append] at this
 rw [this,wd,if_neg (ne 4 (by omega))]
theorem word_part (w:Nat→W32) (k:Nat) (h:k < 5):wordOk (partW w k)=true:=by
 unfold wordOk
 rw [partW_len w k h,Bool.and_eq_true]
 refine ⟨by decide,List.all_eq_true.2 fun c hc=>?_⟩
 obtain ⟨a,ha,rfl⟩:=partW_mem w k c hc
 exact (hexC_ok a ha).1
theorem getD5 (f:Nat→List UInt8) (k:Nat) (h:k < 5):[f 0,f 1,f 2,f 3,f 4].getD k []=f k:=by
 match k,h with
 | 0,_=>rfl
 | 1,_=>rfl
 | 2,_=>rfl
 | 3,_=>rfl
 | 4,_=>rfl
 | n+5,h=>omega
theorem hash_text (w:Nat→W32):hashOk (9 :: ntextL w)=true∧∀ k,k < 5→hashW (9 :: ntextL w) k=w k:=by
 have ok:hashOk (9 :: ntextL w)=true:=by
  unfold hashOk
  rw [words_hash]
  simp only [List.all_cons,List.all_nil,word_part w 0 (by omega),word_part w 1 (by omega),word_part w 2 (by omega),word_part w 3 (by omega),word_part w 4 (by omega)]
  rfl
 refine ⟨ok,fun k hk=>?_⟩
 unfold hashW
 rw [if_pos ok,words_hash]
 have e:=getD5 (partW w) k hk
 rw [e,hexV_part w k hk]
 exact BitVec.ofNat_toNat ..
theorem same5_of {w v:Nat→W32} (h:∀ k,k < 5→w k=v k):same5L w v=true:=by
 unfold same5L
 rw [h 0 (by omega),h 1 (by omega),h 2 (by omega),h 3 (by omega),h 4 (by omega)]; simp
theorem ntext_no (w:Nat→W32) (c:UInt8) (hc:c=10∨c=13∨c=35):c∉ntextL w:=fun hm=>by
 have hp:∀ k,c∉partW w k:=fun k q=>by
  obtain ⟨a,ha,e⟩:=partW_mem w k c q
  obtain ⟨_,_,_,n1,n2,n3⟩:=hexC_ok a ha
  rcases hc with rfl | rfl | rfl
  ·exact n1 e.symm
  ·exact n2 e.symm
  ·exact n3 e.symm
 have h32:c≠32:=by rcases hc with rfl | rfl | rfl <;> decide
 rw [ntext_eq] at hm
 simp only [List.mem_append,List.mem_cons] at hm
 rcases hm with hm | hm | hm | hm | hm | hm | hm | hm | hm
 ·exact hp 0 hm
 ·exact h32 hm
 ·exact hp 1 hm
 ·exact h32 hm
 ·exact hp 2 hm
 ·exact h32 hm
 ·exact hp 3 hm
 ·exact h32 hm
 ·exact hp 4 hm
end Go.Proofs.YtdjldmolhkkipaaGreatDoor.Pl
end
section
set_option linter.unusedVariables false
set_option linter.unusedSimpArgs false
namespace Go.Proofs.YtdjldmolhkkipaaGreatDoor.Pl
open Go Go.Proofs.YtdjldmolhkkipaaGreatDoor.Eng
theorem hd_itoa {n:Int} (h0:0≤n) (h1:n≤9223372036854775807):∃ c r,itoaK n=c :: r∧isDig c=true:=by
 obtain ⟨a,_,b⟩:=itoa_num n h0 h1
 cases h:itoaK n with
 | nil=>exact absurd h b
 | cons c r =>
  rw [h] at a
  exact ⟨c,r,rfl,List.all_eq_true.1 a c (.head _)⟩
theorem dig_35 {c:UInt8} (h:isDig c=true):c≠35:=by rintro rfl; revert h; decide
theorem words_tab (n:Int) (h0:0≤n) (h1:n≤9223372036854775807):wordsL (9 :: itoaK n)=[itoaK n]:=by
 have:=words_join [itoaK n] (by simp) (fun w hw=>by rw [List.mem_singleton] at hw; rw [hw]; exact gw_itoa n h0 h1)
 rw [join_one] at this
 unfold wordsL at this ⊢
 rw [wd,if_pos (by rfl),if_pos rfl,this]
theorem words_two (a b:UInt8) (r:List UInt8) (ha:blankB a=false) (hb:blankB b=false):wordsL (a :: b :: 9 :: r)=[a,b] :: wd [] r:=by
 unfold wordsL
 rw [wd,if_neg (by rw [ha]; simp),wd,if_neg (by rw [hb]; simp),wd,if_pos (by rfl),if_neg (by simp)]
 rfl
theorem read_kind (b:UInt8) (hb:b=36∨b=64) (n:Int) (h0:0≤n) (h1:n≤9223372036854775807):readL ([35,b]++9 :: itoaK n)=⟨[35,b],[itoaK n],[n],true⟩:=by
 have hbb:blankB b=false:=by rcases hb with rfl | rfl <;> rfl
 have hw:wordsL ([35,b]++9 :: itoaK n)≠[]:=by
  rw [show [35,b]++9 :: itoaK n=35 :: b :: 9 :: itoaK n from rfl,words_two 35 b _ rfl hbb]; simp
 unfold readL
 rw [if_neg hw]
 have ht:([35,b]++9 :: itoaK n).take 2=[35,b]:=rfl
 have hd:([35,b]++9 :: itoaK n).drop 2=9 :: itoaK n:=rfl
 rw [ht,hd,if_pos (by rcases hb with rfl | rfl; exact .inl rfl; exact .inr rfl)]
 unfold numsR
 rw [words_tab n h0 h1]
 simp only [List.all_cons,List.all_nil,List.map_cons,List.map_nil,numL_itoa n h0 h1,Bool.and_true,List.length_singleton]
 simp
theorem read_hash (w:Nat→W32):readL (kHash++9 :: ntextL w)=⟨kHash,[],[],true⟩:=by
 have hw:wordsL (kHash++9 :: ntextL w)≠[]:=by
  rw [show kHash++9 :: ntextL w=35 :: 104 :: 9 :: ntextL w from rfl,words_two 35 104 _ rfl rfl]; simp
 unfold readL
 rw [if_neg hw]
 have ht:(kHash++9 :: ntextL w).take 2=kHash:=rfl
 have hd:(kHash++9 :: ntextL w).drop 2=9 :: ntextL w:=rfl
 rw [ht,hd,if_neg (by decide),if_pos rfl,(hash_text w).1]
theorem read_pair {p o:Int} (h0:0≤p+2208988800) (h1:p+2208988800≤9223372036854775807) (o0:0≤o) (o1:o≤9223372036854775807):readL (lpairL p o)=⟨[],[itoaK (p+2208988800),itoaK o],[p+2208988800,o],true⟩:=by
 have hj:lpairL p o=joinT [itoaK (p+2208988800),itoaK o]:=by unfold lpairL; rw [join_cons,join_one]
 have hg:∀ w∈[itoaK (p+2208988800),itoaK o],gw w:=fun w hw=>by
  simp only [List.mem_cons,List.not_mem_nil,or_false] at hw
  rcases hw with rfl | rfl
  ·exact gw_itoa _ h0 h1
  ·exact gw_itoa _ o0 o1
 have hw:wordsL (lpairL p o)=[itoaK (p+2208988800),itoaK o]:=by rw [hj]; exact words_join _ (by simp) hg
 have hb:bareL (lpairL p o)=lpairL p o:=by rw [hj]; exact bare_id (join_not hg).2.2
 obtain ⟨c,r,e,hc⟩:=hd_itoa h0 h1
 have hne:=dig_35 hc
 have ht:∀ b:UInt8,(lpairL p o).take 2≠[35,b]:=fun b q=>by
  unfold lpairL at q
  rw [e,List.cons_append] at q
  cases hr:r++9 :: itoaK o with
  | nil=>rw [hr] at q; cases q
  | cons x y=>rw [hr] at q; exact hne (List.cons.inj q).1
 unfold readL
 rw [hw,if_neg (by simp),if_neg (by rintro (q | q); exact ht _ q; exact ht _ q),if_neg (ht _),if_neg,hb]
 ·unfold numsR
  rw [hw]
  simp only [List.all_cons,List.all_nil,List.map_cons,List.map_nil,numL_itoa _ h0 h1,numL_itoa _ o0 o1,Bool.and_true,List.length_cons,List.length_nil]
  simp
 ·unfold preB
  rw [List.getD_cons_zero,e]
  show ¬ ((c :: r).take 1 == [35])=true
  simpa using hne
theorem goL_app:∀ (A B:List LW) (k:Nat) (s:LS),(goL k s A).2.2=0→goL k s (A++B)=goL (k+A.length) (goL k s A).1 B
 | [],B,k,s,h=>by rw [goL]; simp
 | r :: A,B,k,s,h=>by
  rw [goL] at h
  rw [List.cons_append,goL,goL]
  by_cases e:(lineL s (k+1) r).2≠0
  ·rw [if_pos e] at h; exact absurd h e
  ·rw [if_neg e] at h
   rw [if_neg e,if_neg e,goL_app A B _ _ h,List.length_cons]
   congr 1; omega
theorem line_data (s:LS) (no:Nat) (ws:List (List UInt8)) (n o:Int):lineL s no ⟨[],ws,[n,o],true⟩=dataL s n o:=by
 unfold lineL
 rw [if_neg (by simp),if_neg (by simp),if_neg (by simp),if_neg (by simp),if_pos rfl]
 rfl
theorem offOk_cons {o:Int} {l:LR} {r:List LR} (h:offOk o (l :: r)=true):l.2.2=false∧0≤o+l.2.1∧offOk (o+l.2.1) r=true:=by
 unfold offOk at h
 simp only [Bool.and_eq_true,decide_eq_true_eq,Bool.not_eq_true'] at h
 exact ⟨h.1.1,h.1.2,h.2⟩
theorem go_leaps:∀ (q p:List LR) (k:Nat) (o a1 a2 a3:Int),(checkG 0 729 (p++q)).2.1=0→offOk o q=true→0≤o→o+q.length≤1000000 →
  ∃ o',goL k ⟨p,o,true,a1,a2,a3⟩ ((offsL o q).map readL)=(⟨p++q,o',true,a1,a2,a3⟩,0,0)
 | [],p,k,o,a1,a2,a3,h,ho,h0,h1=>⟨o,by rw [offsL,List.map_nil,goL,List.append_nil]⟩
 | l :: q,p,k,o,a1,a2,a3,h,ho,h0,h1=>by
  obtain ⟨q1,q2,q3⟩:=checkG_all _ _ _ h l (by simp)
  have h':(checkG 0 729 (p++[l])).2.1=0:=checkG_app (p++[l]) q _ _ (by simpa using h)
  obtain ⟨c1,c2,c3⟩:=offOk_cons ho
  rw [List.length_cons] at h1
  have hl:l=(l.1,l.2.1,false):=by rw [← c1]
  have hd:dataL ⟨p,o,true,a1,a2,a3⟩ ((l.1+1) * 86400+2208988800) (o+l.2.1)=(⟨p++[l],o+l.2.1,true,a1,a2,a3⟩,0):=by
   unfold dataL
   dsimp only
   have e1:(l.1+1) * 86400+2208988800 - 2208988800=(l.1+1) * 86400:=by omega
   have e2:o+l.2.1 - o=l.2.1:=by omega
   have e3:(l.1+1) * 86400 / 86400 - 1=l.1:=by omega
   rw [e1,e2,e3,if_neg (by simp),if_neg (by omega),if_neg (by omega),← hl,addT_ok h']
  obtain ⟨o',ih⟩:=go_leaps q (p++[l]) (k+1) (o+l.2.1) a1 a2 a3 (by simpa using h) c3 c2 (by omega)
  refine ⟨o',?_⟩
  rw [offsL,List.map_cons,read_pair (by omega) (by omega) c2 (by omega),goL,line_data,hd,if_neg (by simp)]
  dsimp only
  rw [ih]; simp
theorem leng_check {t:Tb} (h:rightT t=true):t.ls.length≤1000:=by
 have:=(right_0 h).1
 have hb:∀ (p:List LR) (k:Nat) (a:Int),(checkG k a p).2.1=0→p=[]∨k+p.length≤200:=by
  intro p
  induction p with
  | nil=>intro k a h; exact .inl rfl
  | cons l r ih =>
   intro k a h
   rw [checkG] at h
   by_cases hw:wrongL k l a=0
   ·rw [if_neg (by simp [hw])] at h
    have h1:=(wrongL_0 hw).1
    rcases ih _ _ h with e | e
    ·rw [e]; right; simp; omega
    ·right; rw [List.length_cons]; omega
   ·rw [if_pos hw] at h; exact absurd h hw
 rcases hb _ _ _ this with e | e
 ·rw [e]; simp
 ·omega
theorem goL_one (k:Nat) (s:LS) (r:LW) (h:(lineL s (k+1) r).2=0):goL k s [r]=((lineL s (k+1) r).1,0,0):=by
 rw [goL,if_neg (fun q=>q h),goL]
theorem ahead_rows {t:Tb} {wh:Int} (hr:rightT t=true) (h0:0≤wh) (h1:wh≤9223372036854775807):(ahead t wh).map readL=⟨kStamp,[itoaK wh],[wh],true⟩ :: ((if t.has=true then [⟨kExp,[itoaK (t.ex+2208988800)],[t.ex+2208988800],true⟩] else [])++⟨[],[itoaK 2272060800,itoaK 10],[2272060800,10],true⟩ :: (offsL 10 t.ls).map readL):=by
 have hx:=right_ex hr
 unfold ahead
 rw [List.map_cons,read_kind 36 (.inl rfl) wh h0 h1,List.map_append,List.map_cons,read_pair (p:=63072000) (o:=10) (by omega) (by omega) (by omega) (by omega)]
 cases hh:t.has
 ·rfl
 ·have:=hx.2 hh
  rw [if_pos rfl,List.map_cons,List.map_nil,read_kind 64 (.inr rfl) _ (by omega) (by omega)]
  rfl
theorem ahead_good {t:Tb} {wh:Int} (hr:rightT t=true) (h0:0≤wh) (h1:wh≤9223372036854775807) (ho:offOk 10 t.ls=true):∀ x∈ahead t wh,∀ c∈x,c≠10∧c≠13:=by
 have it:∀ n:Int,0≤n→n≤9223372036854775807→∀ c∈itoaK n,c≠10∧c≠13:=fun n a b c hc=>by
  have:=(gw_itoa n a b).2 c hc
  exact ⟨this.2.1,this.2.2.2⟩
 have pr:∀ p o:Int,0≤p+2208988800→p+2208988800≤9223372036854775807→0≤o→o≤9223372036854775807→∀ c∈lpairL p o,c≠10∧c≠13:=fun p o a b d e c hc=>by
  unfold lpairL at hc
  rw [List.mem_append,List.mem_cons] at hc
  rcases hc with hc | rfl | hc
  ·exact it _ a b c hc
  ·decide
  ·exact it _ d e c hc
 have lp:∀ (q:List LR) (o:Int),(∀ l∈q,730≤l.1∧l.1 < 2932896∧(l.2.1=1∨l.2.1=-1))→offOk o q=true→0≤o→o+q.length≤1000000→∀ x∈offsL o q,∀ c∈x,c≠10∧c≠13:=by
  intro q
  induction q with
  | nil=>intro o _ _ _ _ x hx; cases hx
  | cons l r ih =>
   intro o hq hk h0 h1 x hx
   obtain ⟨c1,c2,c3⟩:=offOk_cons hk
   obtain ⟨d1,d2,d3⟩:=hq l (.head _)
   rw [List.length_cons] at h1
   rw [offsL,List.mem_cons] at hx
   rcases hx with rfl | hx
   ·exact pr _ _ (by omega) (by omega) c2 (by omega)
   ·exact ih _ (fun l hl=>hq l (.tail _ hl)) c3 c2 (by omega) x hx
 intro x hx c hc
 unfold ahead at hx
 rw [List.mem_cons,List.mem_append,List.mem_cons] at hx
 rcases hx with rfl | hx | rfl | hx
 ·rcases List.mem_append.1 hc with hc | hc
  ·exact (by decide:∀ d∈kStamp,d≠10∧d≠13) c hc
  rcases List.mem_cons.1 hc with rfl | hc
  ·decide
  ·exact it _ h0 h1 c hc
 ·split at hx
  ·rename_i hh
   have:=(right_ex hr).2 hh
   rw [List.mem_singleton] at hx
   subst hx
   rcases List.mem_append.1 hc with hc | hc
   ·exact (by decide:∀ d∈kExp,d≠10∧d≠13) c hc
   rcases List.mem_cons.1 hc with rfl | hc
   ·decide
   ·exact it _ (by omega) (by omega) c hc
  ·cases hx
 ·exact pr _ _ (by omega) (by omega) (by omega) (by omega) c hc
 ·have hl:=leng_check hr
  exact lp t.ls 10 (checkG_all _ _ _ (right_0 hr).1) ho (by omega) (by omega) x hx c hc
theorem lines_of (L:List (List UInt8)) (h:∀ x∈L,∀ c∈x,c≠10∧c≠13):linesL (textOf L)=L:=by
 unfold textOf
 rw [lines_flat L (fun x hx hc=>(h x hx 10 hc).1 rfl)]
 exact map_id_of L fun x hx=>trimR_id fun hc=>(h x hx 13 hc).2 rfl
theorem hashedK_app (kd:List UInt8) (A B:List LW):hashedK kd (A++B)=hashedK kd A++hashedK kd B:=by unfold hashedK; simp
theorem hashed_hash (A:List LW) (r:LW) (h:r.kd=kHash∨r.kd=kRem):hashedL (A++[r])=hashedL A:=by
 have:∀ kd,kd=kStamp∨kd=kExp∨kd=[]→hashedK kd [r]=[]:=fun kd hk=>by
  unfold hashedK
  rw [List.map_cons,List.map_nil,if_neg]
  ·rfl
  ·rcases h with h | h <;> rw [h] <;> rcases hk with rfl | rfl | rfl <;> decide
 unfold hashedL
 rw [hashedK_app,hashedK_app,hashedK_app,this _ (.inl rfl),this _ (.inr (.inl rfl)),this _ (.inr (.inr rfl))]
 simp
theorem lparse_text {t:Tb} {wh:Int} (hr:rightT t=true) (h0:0≤wh) (h1:wh≤9223372036854775807) (ho:offOk 10 t.ls=true):lparseL (ltextB t wh)=(t,0,0):=by
 have hg:=ahead_good hr h0 h1 ho
 have hlen:=leng_check hr
 have hx:=right_ex hr
 generalize hW:wordsOf (hashL (textOf (ahead t wh)))=W
 have hline:∀ c∈kHash++9 :: ntextL W,c≠10∧c≠13:=fun c hc=>by
  rcases List.mem_append.1 hc with hc | hc
  ·exact (by decide:∀ d∈kHash,d≠10∧d≠13) c hc
  rcases List.mem_cons.1 hc with rfl | hc
  ·decide
  ·exact ⟨fun q=>ntext_no W 10 (.inl rfl) (q ▸ hc),fun q=>ntext_no W 13 (.inr (.inl rfl)) (q ▸ hc)⟩
 have ht:ltextB t wh=textOf (ahead t wh++[kHash++9 :: ntextL W]):=by
  show textOf (ahead t wh)++(kHash++9 :: ntextL (wordsOf (hashL (textOf (ahead t wh)))))++[10]=_
  rw [hW]; simp [textOf]
 have hL:linesL (ltextB t wh)=ahead t wh++[kHash++9 :: ntextL W]:=by
  rw [ht]
  refine lines_of _ fun x hx c hc=>?_
  rcases List.mem_append.1 hx with hx | hx
  ·exact hg x hx c hc
  ·rw [List.mem_singleton] at hx; rw [hx] at hc; exact hline c hc
 have hL0:linesL (textOf (ahead t wh))=ahead t wh:=lines_of _ hg
 have hR:rowsL (ltextB t wh)=(ahead t wh).map readL++[⟨kHash,[],[],true⟩]:=by
  unfold rowsL; rw [hL,List.map_append,List.map_cons,List.map_nil,read_hash]
 have hown:wordsOf (digest (hashedL (rowsL (ltextB t wh))))=W:=by
  rw [hR,hashed_hash _ _ (.inl rfl),← hW]
  unfold hashL rowsL
  rw [hL0]
 have hA:=ahead_rows (t:=t) (wh:=wh) hr h0 h1
 have c1:=right_0 hr
 -- the lines ahead of the hash
 have hgo:∃ o',goL 0 ls0 ((ahead t wh).map readL)=(⟨t.ls,o',true,1,if t.has=true then 2 else 0,0⟩,0,0):=by
  rw [hA]
  have stamp:lineL ls0 1 ⟨kStamp,[itoaK wh],[wh],true⟩=(⟨[],0,false,1,0,0⟩,0):=rfl
  rw [goL,stamp,if_neg (by simp)]
  dsimp only
  have anchor:∀ (a1 a2:Int) (no:Nat),lineL ⟨[],0,false,a1,a2,0⟩ no ⟨[],[itoaK 2272060800,itoaK 10],[2272060800,10],true⟩=(⟨[],10,true,a1,a2,0⟩,0):=fun a1 a2 no=>by
   rw [line_data]; rfl
  cases hh:t.has
  ·rw [if_neg (by simp),if_neg (by simp),List.nil_append,goL,anchor,if_neg (by simp)]
   obtain ⟨o',e⟩:=go_leaps t.ls [] (0+1+1) 10 1 0 0 (by simpa using c1.1) ho (by omega) (by omega)
   exact ⟨o',by rw [e]; rfl⟩
  ·rw [if_pos rfl,if_pos rfl,List.singleton_append,goL]
   have exl:lineL ⟨[],0,false,1,0,0⟩ (0+1+1) ⟨kExp,[itoaK (t.ex+2208988800)],[t.ex+2208988800],true⟩=(⟨[],0,false,1,2,0⟩,0):=rfl
   rw [exl,if_neg (by simp)]
   dsimp only
   rw [goL,anchor,if_neg (by simp)]
   obtain ⟨o',e⟩:=go_leaps t.ls [] (0+1+1+1) 10 1 2 0 (by simpa using c1.1) ho (by omega) (by omega)
   exact ⟨o',by rw [e]; rfl⟩
 obtain ⟨o',hgo⟩:=hgo
 have hall:goL 0 ls0 (rowsL (ltextB t wh))=(⟨t.ls,o',true,1,if t.has=true then 2 else 0,((ahead t wh).length:Int)+1⟩,0,0):=by
  rw [hR,goL_app _ _ _ _ (by rw [hgo]),hgo,goL_one]
  ·rw [List.length_map]
   unfold lineL
   rw [if_neg (by simp),if_neg (by decide),if_neg (by decide),if_pos rfl,if_neg (by simp)]
   simp
  ·unfold lineL
   rw [if_neg (by simp),if_neg (by decide),if_neg (by decide),if_pos rfl,if_neg (by simp)]
 unfold lparseL
 rw [hall,if_neg (by simp)]
 unfold endL
 dsimp only
 rw [if_neg (by simp)]
 have hex:t.has=true→((rowsL (ltextB t wh)).getD ((if t.has=true then (2:Int) else 0).toNat - 1) lw0).ns.getD 0 0 - 2208988800=t.ex:=fun hh=>by
  rw [hR,hA,hh,if_pos rfl,if_pos rfl]
  show t.ex+2208988800 - 2208988800=t.ex
  omega
 have ha3:((ahead t wh).length+1:Int).toNat - 1=(ahead t wh).length:=by omega
 have hgetL:(linesL (ltextB t wh)).getD (((ahead t wh).length+1:Int).toNat - 1) []=kHash++9 :: ntextL W:=by
  rw [hL,ha3]; simp
 have hhash:same5L (hashW (((linesL (ltextB t wh)).getD (((ahead t wh).length+1:Int).toNat - 1) []).drop 2)) (wordsOf (digest (hashedL (rowsL (ltextB t wh)))))=true:=by
  rw [hgetL,hown]
  exact same5_of fun k hk=>(hash_text W).2 k hk
 obtain ⟨ls,has,ex⟩:=t
 dsimp only at *
 cases has
 ·rw [if_neg (by simp),if_neg (fun q=>by rw [hhash] at q; cases q.2),if_neg (by simp),hx.1 rfl]
 ·have he:=hex rfl
  rw [he,if_neg (fun q=>by rw [hr] at q; cases q.2),if_neg (fun q=>by rw [hhash] at q; cases q.2),if_pos (by simp)]
end Go.Proofs.YtdjldmolhkkipaaGreatDoor.Pl
end
section
set_option linter.unusedVariables false
set_option linter.unusedSimpArgs false
namespace Go.Proofs.YtdjldmolhkkipaaGreatDoor.Pl
open Go Go.Proofs.YtdjldmolhkkipaaGreatDoor.Eng
theorem wd_good:∀ (l cur:List UInt8),(∀ c∈cur,blankB c=false)→∀ w∈wd cur l,w≠[]∧∀ c∈w,blankB c=false
 | [],cur,h=>by
  rw [wd]; split
  ·simp
  ·rename_i hc
   intro w hw
   simp only [List.mem_singleton] at hw
   subst hw; exact ⟨hc,h⟩
 | a :: r,cur,h=>by
  rw [wd]
  split
  ·split
   ·exact wd_good r [] (by simp)
   ·rename_i hc
    intro w hw
    cases hw with
    | head=>exact ⟨hc,h⟩
    | tail _ hw=>exact wd_good r [] (by simp) w hw
  ·rename_i hb
   exact wd_good r (cur++[a]) (fun c hc=>by
    rw [List.mem_append,List.mem_singleton] at hc
    rcases hc with hc | rfl
    ·exact h c hc
    ·simpa using hb)
theorem words_good (l:List UInt8):∀ w∈wordsL l,w≠[]∧∀ c∈w,blankB c=false:=wd_good l [] (by simp)
theorem spl_sum (c:UInt8):∀ l:List UInt8,((spl c l).map List.length).sum+(spl c l).length=l.length+1
 | []=>rfl
 | b :: r=>by
  have ih:=spl_sum c r
  rw [spl]
  split
  ·simp; omega
  ·have:=spl_ne c r
   match hs:spl c r with
   | []=>exact absurd hs this
   | h :: t=>rw [hs] at ih; simp at ih ⊢; omega
theorem lines_sum (s:List UInt8):((linesL s).map List.length).sum+(linesL s).length≤s.length+1:=by
 have h:=spl_sum 10 s
 have tr:∀ L:List (List UInt8),((L.map trimR).map List.length).sum≤(L.map List.length).sum:=fun L=>by
  induction L with
  | nil=>simp
  | cons x r ih=>have:=trimR_len x; simp at ih ⊢; omega
 have dl:∀ L:List (List UInt8),(L.dropLast.map List.length).sum≤(L.map List.length).sum:=fun L=>by
  induction L with
  | nil=>simp
  | cons x r ih =>
   cases r with
   | nil=>simp
   | cons y r=>simp at ih ⊢; omega
 unfold linesL
 split
 ·have h1:=tr (spl 10 s).dropLast
  have h2:=dl (spl 10 s)
  rw [List.length_map,List.length_dropLast]; omega
 ·have h1:=tr (spl 10 s)
  rw [List.length_map]; omega
end Go.Proofs.YtdjldmolhkkipaaGreatDoor.Pl
end
section
set_option linter.unusedVariables false
set_option linter.unusedSimpArgs false
namespace Go.Proofs.YtdjldmolhkkipaaGreatDoor.Pl
open Go Go.Proofs.YtdjldmolhkkipaaGreatDoor.Eng
theorem wrongL_bd (k:Nat) (l:LR) (a:Int):wrongL k l a=0∨(2≤wrongL k l a∧wrongL k l a≤9):=by
 unfold wrongL
 repeat' split
 all_goals first | exact .inl rfl | exact .inr (by decide)
theorem checkG_bd:∀ (p:List LR) (k:Nat) (a:Int),(checkG k a p).2.1=0∨(2≤(checkG k a p).2.1∧(checkG k a p).2.1≤9)
 | [],k,a=>.inl rfl
 | l :: r,k,a=>by
  rw [checkG]
  split
  ·exact wrongL_bd k l a
  ·exact checkG_bd r _ _
theorem addT_bd (ls:List LR) (l:LR):(addT ⟨ls,false,0⟩ l).2=0∨(2≤(addT ⟨ls,false,0⟩ l).2∧(addT ⟨ls,false,0⟩ l).2≤9):=by
 have h:∀ t:Tb,t.has=false→t.ex=0→(checkT t).2=0∨(2≤(checkT t).2∧(checkT t).2≤9):=fun t h1 h2=>by
  unfold checkT
  split
  ·exact checkG_bd _ _ _
  ·rw [h1,h2]; exact .inl rfl
 unfold addT
 split
 ·exact h _ rfl rfl
 ·exact .inl rfl
theorem addT_mem (ls:List LR) (l:LR):∀ x∈(addT ⟨ls,false,0⟩ l).1.ls,x∈ls∨x=l:=by
 unfold addT
 split
 ·exact fun x hx=>.inl hx
 ·intro x hx
  rcases List.mem_append.1 hx with hx | hx
  ·exact .inl hx
  ·exact .inr (List.mem_singleton.1 hx)
structure LG (s:LS) (k:Nat):Prop where
 c:(checkG 0 729 s.ls).2.1=0
 r:∀ x∈s.ls,x.2.2=false
 a1:0≤s.a1∧s.a1≤k
 a2:0≤s.a2∧s.a2≤k
 a3:0≤s.a3∧s.a3≤k
theorem LG.mono {s:LS} {k m:Nat} (h:LG s k) (hm:k≤m):LG s m:=⟨h.c,h.r,⟨h.a1.1,by have:=h.a1; omega⟩,⟨h.a2.1,by have:=h.a2; omega⟩,⟨h.a3.1,by have:=h.a3; omega⟩⟩
theorem LG.data {s:LS} {k:Nat} (h:LG s k) (n o:Int):LG (dataL s n o).1 k∧((dataL s n o).2=0∨(2≤(dataL s n o).2∧(dataL s n o).2≤9)):=by
 unfold dataL
 split
 ·split
  ·exact ⟨h,.inr (show (2:Int)≤9∧(9:Int)≤9 by decide)⟩
  ·exact ⟨⟨h.c,h.r,h.a1,h.a2,h.a3⟩,.inl rfl⟩
 ·split
  ·exact ⟨⟨h.c,h.r,h.a1,h.a2,h.a3⟩,.inr (show (2:Int)≤5∧(5:Int)≤9 by decide)⟩
  ·split
   ·exact ⟨⟨h.c,h.r,h.a1,h.a2,h.a3⟩,.inr (show (2:Int)≤6∧(6:Int)≤9 by decide)⟩
   ·refine ⟨⟨addT_good h.c,fun x hx=>?_,h.a1,h.a2,h.a3⟩,addT_bd _ _⟩
    rcases addT_mem _ _ x hx with hx | hx
    ·exact h.r x hx
    ·rw [hx]
theorem LG.line {s:LS} {k:Nat} (h:LG s k) (r:LW):LG (lineL s (k+1) r).1 (k+1)∧((lineL s (k+1) r).2=0∨(2≤(lineL s (k+1) r).2∧(lineL s (k+1) r).2≤9)):=by
 have hm:=h.mono (Nat.le_succ k)
 have two:((2:Int)=0∨(2≤(2:Int)∧(2:Int)≤9)):=.inr ⟨by decide,by decide⟩
 unfold lineL
 split
 ·exact ⟨hm,two⟩
 split
 ·split
  ·exact ⟨hm,two⟩
  ·exact ⟨⟨hm.c,hm.r,⟨by dsimp only; omega,by dsimp only; omega⟩,hm.a2,hm.a3⟩,.inl rfl⟩
 split
 ·split
  ·exact ⟨hm,two⟩
  ·exact ⟨⟨hm.c,hm.r,hm.a1,⟨by dsimp only; omega,by dsimp only; omega⟩,hm.a3⟩,.inl rfl⟩
 split
 ·split
  ·exact ⟨hm,two⟩
  ·exact ⟨⟨hm.c,hm.r,hm.a1,hm.a2,⟨by dsimp only; omega,by dsimp only; omega⟩⟩,.inl rfl⟩
 split
 ·exact hm.data _ _
 ·exact ⟨hm,.inl rfl⟩
theorem rows_len (s:List UInt8):(rowsL s).length=(linesL s).length:=by unfold rowsL; rw [List.length_map]
end Go.Proofs.YtdjldmolhkkipaaGreatDoor.Pl
end
section
set_option linter.unusedVariables false
set_option linter.unusedSimpArgs false
namespace Go.Proofs.YtdjldmolhkkipaaGreatDoor.Pl
open Go Go.Proofs.YtdjldmolhkkipaaGreatDoor.Eng
theorem wd_sum1:∀ (l c:List UInt8),((wd c l).map List.length).sum≤c.length+l.length
 | [],c=>by
  rw [wd]
  split <;> simp
 | b :: r,c=>by
  rw [wd]
  split
  ·have:=wd_sum1 r []
   split
   ·simp at this ⊢; omega
   ·simp at this ⊢; omega
  ·have:=wd_sum1 r (c++[b])
   simp at this ⊢; omega
theorem words_sum1 (l:List UInt8):((wordsL l).map List.length).sum≤l.length:=by
 have:=wd_sum1 l []
 simpa [wordsL] using this
theorem sum_pos1:∀ (ws:List (List UInt8)),(∀ w∈ws,w≠[])→ws.length≤(ws.map List.length).sum
 | [],_=>by simp
 | w :: r,h=>by
  have h1:=sum_pos1 r fun x hx=>h x (.tail _ hx)
  have h2:1≤w.length:=by
   cases w with
   | nil=>exact absurd rfl (h [] (.head _))
   | cons=>simp
  simp; omega
theorem words_len (l:List UInt8):(wordsL l).length≤l.length:=Nat.le_trans (sum_pos1 _ fun w hw=>(words_good l w hw).1) (words_sum1 l)
theorem mem_sum1:∀ (ws:List (List UInt8)) (w:List UInt8),w∈ws→w.length≤(ws.map List.length).sum
 | x :: r,w,h=>by
  rcases List.mem_cons.1 h with rfl | h
  ·simp
  ·have:=mem_sum1 r w h; simp; omega
theorem words_mem_len (l w:List UInt8) (h:w∈wordsL l):w.length≤l.length:=Nat.le_trans (mem_sum1 _ w h) (words_sum1 l)
theorem lines_len (l:List UInt8):(linesL l).length≤l.length+1:=(linesL_len l).1
theorem lines_mem_len (l w:List UInt8) (h:w∈linesL l):w.length≤l.length:=(linesL_len l).2 w h
theorem bare_len' (l:List UInt8):(bareL l).length≤l.length:=by unfold bareL; simp; omega
theorem row_len (x:List UInt8):(readL x).ws.flatten.length≤x.length∧(readL x).ws.length≤x.length:=by
 have key:∀ kd y many,y.length≤x.length→(numsR kd y many).ws.flatten.length≤x.length∧(numsR kd y many).ws.length≤x.length:=fun kd y many hy=>by
  unfold numsR
  dsimp only
  split
  ·rw [List.length_flatten]
   exact ⟨Nat.le_trans (words_sum1 y) hy,Nat.le_trans (words_len y) hy⟩
  ·exact ⟨Nat.zero_le _,Nat.zero_le _⟩
 unfold readL
 split
 ·exact ⟨Nat.zero_le _,Nat.zero_le _⟩
 ·split
  ·exact key _ _ _ (by rw [List.length_drop]; omega)
  ·split
   ·exact ⟨Nat.zero_le _,Nat.zero_le _⟩
   ·split
    ·exact ⟨Nat.zero_le _,Nat.zero_le _⟩
    ·exact key _ _ _ (bare_len' x)
def rowSum (R:List LW):Nat:=(R.map fun r=>r.ws.flatten.length).sum
theorem rowSum_cons (r:LW) (R:List LW):rowSum (r :: R)=r.ws.flatten.length+rowSum R:=by simp [rowSum]
theorem hashedK_len (kd:List UInt8):∀ R:List LW,(hashedK kd R).length≤rowSum R
 | []=>by simp [hashedK]
 | r :: R=>by
  have:=hashedK_len kd R
  rw [rowSum_cons]
  unfold hashedK at this ⊢
  rw [List.map_cons,List.flatten_cons,List.length_append]
  split
  ·omega
  ·simp at this ⊢; omega
theorem rowSum_lines:∀ L:List (List UInt8),rowSum (L.map readL)≤(L.map List.length).sum
 | []=>by simp [rowSum]
 | x :: L=>by
  have:=rowSum_lines L
  rw [List.map_cons,rowSum_cons,List.map_cons,List.sum_cons]
  have:=(row_len x).1
  omega
theorem hashed_len (s:List UInt8):(hashedL (rowsL s)).length≤3 * (s.length+1):=by
 have h1:=rowSum_lines (linesL s)
 have h2:=lines_sum s
 unfold hashedL rowsL
 rw [List.length_append,List.length_append]
 have:=hashedK_len kStamp ((linesL s).map readL)
 have:=hashedK_len kExp ((linesL s).map readL)
 have:=hashedK_len [] ((linesL s).map readL)
 omega
theorem rows_get (s:List UInt8) (i:Nat) (h:i < (rowsL s).length):(rowsL s).getD i lw0=readL ((linesL s).getD i []):=by
 have h':i < (linesL s).length:=by rwa [rows_len] at h
 rw [getD_in _ _ _ h,getD_in _ _ _ h']
 simp [rowsL]
theorem rnums_ok (kd y:List UInt8) (many:Nat) (h:(numsR kd y many).ok=true):(numsR kd y many).ns.length=many∧∀ i,i < many→0≤(numsR kd y many).ns.getD i 0∧(numsR kd y many).ns.getD i 0≤9223372036854775807:=by
 unfold numsR at h ⊢
 dsimp only at h ⊢
 rw [Bool.and_eq_true,beq_iff_eq] at h
 refine ⟨by rw [List.length_map]; exact h.2,fun i hi=>?_⟩
 rw [getD_in _ _ _ (by rw [List.length_map,h.2]; exact hi),List.getElem_map]
 exact numL_bd _
theorem row_data (x:List UInt8) (h:(readL x).ok=true) (hk:(readL x).kd=[]):(readL x).ns.length=2∧∀ i,i < 2→0≤(readL x).ns.getD i 0∧(readL x).ns.getD i 0≤9223372036854775807:=by
 unfold readL at h hk ⊢
 split at hk
 ·cases hk
 ·rename_i e0
  rw [if_neg e0] at h ⊢
  split at hk
  ·rename_i e1
   have hk:x.take 2=[]:=hk
   rw [hk] at e1; rcases e1 with e1 | e1 <;> cases e1
  ·rename_i e1
   rw [if_neg e1] at h ⊢
   split at hk
   ·cases hk
   ·rename_i e2
    rw [if_neg e2] at h ⊢
    split at hk
    ·cases hk
    ·rename_i e3
     rw [if_neg e3] at h ⊢
     exact rnums_ok _ _ _ h
theorem row_exp (x:List UInt8) (h:(readL x).ok=true) (hk:(readL x).kd=kExp):(readL x).ns.length=1∧0≤(readL x).ns.getD 0 0∧(readL x).ns.getD 0 0≤9223372036854775807:=by
 unfold readL at h hk ⊢
 split at hk
 ·exact absurd (show kRem=kExp from hk) (by decide)
 ·rename_i e0
  rw [if_neg e0] at h ⊢
  split at hk
  ·rename_i e1
   rw [if_pos e1] at h ⊢
   have:=rnums_ok _ _ _ h
   exact ⟨this.1,this.2 0 (by omega)⟩
  ·split at hk
   ·exact absurd (show kHash=kExp from hk) (by decide)
   ·split at hk
    ·exact absurd (show kRem=kExp from hk) (by decide)
    ·have hk:([]:List UInt8)=kExp:=hk
     cases hk
theorem row_hash (x:List UInt8) (hk:(readL x).kd=kHash):x.take 2=kHash:=by
 unfold readL at hk
 split at hk
 ·exact absurd (show kRem=kHash from hk) (by decide)
 ·split at hk
  ·exact hk
  ·split at hk
   ·assumption
   ·split at hk
    ·exact absurd (show kRem=kHash from hk) (by decide)
    ·have hk:([]:List UInt8)=kHash:=hk
     cases hk
structure LI (R:List LW) (j:Nat) (s:LS):Prop where
 off:0≤s.off∧s.off≤9223372036854775807
 len:s.ls.length≤j
 e:s.a2 > 0→s.a2≤(j:Int)∧(R.getD (s.a2.toNat - 1) lw0).kd=kExp∧(R.getD (s.a2.toNat - 1) lw0).ok=true
 h:s.a3 > 0→s.a3≤(j:Int)∧(R.getD (s.a3.toNat - 1) lw0).kd=kHash
theorem addT_len (ls:List LR) (l:LR):(addT ⟨ls,false,0⟩ l).1.ls.length≤ls.length+1:=by
 unfold addT
 split
 ·dsimp only; omega
 ·dsimp only; rw [List.length_append]; exact Nat.le_refl _
theorem data_a (s:LS) (n o:Int):(dataL s n o).1.a1=s.a1∧(dataL s n o).1.a2=s.a2∧(dataL s n o).1.a3=s.a3:=by
 unfold dataL
 repeat' split
 all_goals exact ⟨rfl,rfl,rfl⟩
theorem data_b (s:LS) (n o:Int):((dataL s n o).1.off=s.off∨(dataL s n o).1.off=o)∧(dataL s n o).1.ls.length≤s.ls.length+1:=by
 unfold dataL
 have:=addT_len s.ls ((n - 2208988800) / 86400 - 1,o - s.off,false)
 repeat' split
 all_goals first | exact ⟨.inl rfl,by dsimp only; omega⟩ | exact ⟨.inr rfl,by dsimp only; omega⟩
theorem LI.line {R:List LW} {j:Nat} {s:LS} (h:LI R j s) (hr:(R.getD j lw0).ok=true→(R.getD j lw0).kd=[]→0≤(R.getD j lw0).ns.getD 1 0∧(R.getD j lw0).ns.getD 1 0≤9223372036854775807):LI R (j+1) (lineL s (j+1) (R.getD j lw0)).1:=by
 have up:LI R (j+1) s:=⟨h.off,by have:=h.len; omega,fun q=>⟨by have:=(h.e q).1; omega,(h.e q).2⟩,fun q=>⟨by have:=(h.h q).1; omega,(h.h q).2⟩⟩
 have ej:((j+1:Nat):Int).toNat - 1=j:=by omega
 unfold lineL
 split
 ·exact up
 rename_i ok
 split
 ·split
  ·exact up
  ·exact ⟨up.off,up.len,up.e,up.h⟩
 split
 ·rename_i kd
  split
  ·exact up
  ·exact ⟨up.off,up.len,fun _=>⟨by dsimp only; omega,by dsimp only; rw [ej]; exact kd,by dsimp only; rw [ej]; simpa using ok⟩,up.h⟩
 split
 ·rename_i kd
  split
  ·exact up
  ·exact ⟨up.off,up.len,up.e,fun _=>⟨by dsimp only; omega,by dsimp only; rw [ej]; exact kd⟩⟩
 split
 ·rename_i kd
  obtain ⟨d1,d2,d3⟩:=data_a s ((R.getD j lw0).ns.getD 0 0) ((R.getD j lw0).ns.getD 1 0)
  obtain ⟨d4,d5⟩:=data_b s ((R.getD j lw0).ns.getD 0 0) ((R.getD j lw0).ns.getD 1 0)
  refine ⟨?_,by have:=h.len; omega,?_,?_⟩
  ·rcases d4 with d4 | d4
   ·rw [d4]; exact h.off
   ·rw [d4]; exact hr (by simpa using ok) kd
  ·rw [d2]; exact up.e
  ·rw [d3]; exact up.h
 ·exact up
theorem ls0_LI (R:List LW):LI R 0 ls0:=⟨⟨by decide,by decide⟩,Nat.le_refl _,fun q=>absurd q (by decide),fun q=>absurd q (by decide)⟩
end Go.Proofs.YtdjldmolhkkipaaGreatDoor.Pl
end
section
set_option linter.unusedVariables false
set_option linter.unusedSimpArgs false
namespace Go.Proofs.YtdjldmolhkkipaaGreatDoor
open Go Go.Proofs.YtdjldmolhkkipaaGreatDoor.Eng Go.Proofs.YtdjldmolhkkipaaGreatDoor.Pl
abbrev T20:Type:=Int×Int×Int×Int×Int×Int×Int×Int×Int×Int×Int×Int×Int×Int×Int×Int×Int×Int×Int×Int×Unit
abbrev T5:Type:=Int×Int×Int×Int×Int×Unit
theorem wi_or (x y:W32):wu32 ((BitVec.toNat (BitVec.ofInt 32 (wi x) ||| BitVec.ofInt 32 (wi y)):Nat):Int)=wi (x ||| y):=by rw [ofInt_wi,ofInt_wi,wu32_wi]
theorem wi_and (x y:W32):wu32 ((BitVec.toNat (BitVec.ofInt 32 (wi x) &&& BitVec.ofInt 32 (wi y)):Nat):Int)=wi (x &&& y):=by rw [ofInt_wi,ofInt_wi,wu32_wi]
theorem wi_xor (x y:W32):wu32 ((BitVec.toNat (BitVec.ofInt 32 (wi x) ^^^ BitVec.ofInt 32 (wi y)):Nat):Int)=wi (x ^^^ y):=by rw [ofInt_wi,ofInt_wi,wu32_wi]
theorem sRot (x:W32) (k:Nat) (h:k < 32) {K} (hk:K (wi (rotl x k))):Xq08 (wi x) (k:Int) K:=by
 unfold Xq08 Yq08
 have e1:wu64 ((BitVec.toNat (BitVec.ofInt 64 (wu64 (k:Int)) &&& BitVec.ofInt 64 31):Nat):Int)=(k:Int):=by
  rw [wu64_in (n:=(k:Int)) (by omega) (by omega)]
  have:(BitVec.ofInt 64 (k:Int) &&& BitVec.ofInt 64 31)=BitVec.ofNat 64 k:=by
   have:∀ k:Fin 32,(BitVec.ofInt 64 ((k.val:Nat):Int) &&& BitVec.ofInt 64 31)=BitVec.ofNat 64 k.val:=by decide
   exact this ⟨k,h⟩
  rw [this,BitVec.toNat_ofNat,Nat.mod_eq_of_lt (by omega),wu64_in (by omega) (by omega)]
 rw [e1]
 have e2:Min.min (Int.toNat (k:Int)) 32=k:=by rw [Int.toNat_natCast]; omega
 have e3:wu64 (32 - (k:Int))=((32 - k:Nat):Int):=by rw [wu64_in (by omega) (by omega)]; omega
 have e4:Min.min (Int.toNat ((32 - k:Nat):Int)) 32=32 - k:=by rw [Int.toNat_natCast]; omega
 simp only [lt,e2,e3]
 refine ifF (by omega) ?_
 rw [e4,wi_shl,wi_shr,wi_or]
 exact hk
theorem sStep (s:St5) (f k w:W32) {K:Int→Int→Int→Int→Int→Prop} (h:K (wi (stepS s f k w).a) (wi (stepS s f k w).b) (wi (stepS s f k w).c) (wi (stepS s f k w).d) (wi (stepS s f k w).e)) :
  Xq0l (wi f) (wi k) (wi w) (wi s.a) (wi s.b) (wi s.c) (wi s.d) (wi s.e) K:=by
 unfold Xq0l Yq0l
 refine sRot s.a 5 (by omega) ?_
 simp only [lt,wi_add]
 exact sRot s.b 30 (by omega) h
theorem sRounds (ws:List W32) (hl:ws.length=80) (s:St5) {K:Int→Int→Int→Int→Int→Prop} (a1 a2 a3 a4 a5 k6 k16) (l:List V) (hw:∀ i,i < 80→l[i]? = some (cw (ws.getD i 0)))
  (h:K (wi (addS (roundsN ws s 80) s).a) (wi (addS (roundsN ws s 80) s).b) (wi (addS (roundsN ws s 80) s).c) (wi (addS (roundsN ws s 80) s).d) (wi (addS (roundsN ws s 80) s).e)) :
  lp (Lq0g_3 Xq0l K a1 a2 a3 a4 a5 k6 k16) (((),(),l,0,()),(wi s.a,wi s.b,wi s.c,wi s.d,wi s.e,()),(wi s.a,wi s.b,wi s.c,wi s.d,wi s.e,()),()):=by
 refine lp_at (fun j=>(((),(),l,(j:Int),()),(wi (roundsN ws s j).a,wi (roundsN ws s j).b,wi (roundsN ws s j).c,wi (roundsN ws s j).d,wi (roundsN ws s j).e,()),(wi s.a,wi s.b,wi s.c,wi s.d,wi s.e,()),())) 80 rfl fun n hn k hk=>?_
 unfold Lq0g_3
 simp only [decide_eq_true_eq]
 by_cases e:n=80
 ·subst e
  refine ifF (by omega) ?_
  simp only [wi_add]
  exact h
 ·have hn':n < 80:=by omega
  have hk':=hk hn'
  refine ifT (by omega) (ifT (by omega) ?_)
  rw [Int.toNat_natCast,Nat.mul_one,hw n hn']
  simp only [Eng.asInt,if_true,lt,wi_xor,wi_and,wi_or]
  have ed:w64 (Int.tdiv (n:Int) 20)=((n / 20:Nat):Int):=by
   rw [Int.tdiv_eq_ediv_of_nonneg (by omega),w64_in (by omega) (by omega)]; omega
  have e1:w64 ((n:Int)+1)=((n+1:Nat):Int):=by rw [w64_in (by omega) (by omega)]; omega
  simp only [ed,e1,beq_iff_eq]
  have q1:(1518500249:Int)=wi 1518500249#32:=by decide
  have q2:(1859775393:Int)=wi 1859775393#32:=by decide
  have q3:(2400959708:Int)=wi 2400959708#32:=by decide
  have q4:(3395469782:Int)=wi 3395469782#32:=by decide
  rw [q1,q2,q3,q4]
  have hs:roundsN ws s (n+1)=stepS (roundsN ws s n) (fAt n (roundsN ws s n).b (roundsN ws s n).c (roundsN ws s n).d) (kAt n) (ws.getD n 0):=rfl
  simp only [hs] at hk'
  refine ifC (fun h0=>?_) fun h0=>ifC (fun h1=>?_) fun h1=>ifC (fun h2=>?_) fun h2=>?_
  ·have:n < 20:=by omega
   refine sStep (roundsN ws s n) _ _ _ ?_
   simp only [fAt,kAt,if_pos this] at hk'; exact hk'
  ·have g0:¬ n < 20:=by omega
   have g1:n < 40:=by omega
   refine sStep (roundsN ws s n) _ _ _ ?_
   simp only [fAt,kAt,if_neg g0,if_pos g1] at hk'; exact hk'
  ·have g0:¬ n < 20:=by omega
   have g1:¬ n < 40:=by omega
   have g2:n < 60:=by omega
   refine sStep (roundsN ws s n) _ _ _ ?_
   simp only [fAt,kAt,if_neg g0,if_neg g1,if_pos g2] at hk'; exact hk'
  ·have g0:¬ n < 20:=by omega
   have g1:¬ n < 40:=by omega
   have g2:¬ n < 60:=by omega
   refine sStep (roundsN ws s n) _ _ _ ?_
   simp only [fAt,kAt,if_neg g0,if_neg g1,if_neg g2] at hk'; exact hk'
end Go.Proofs.YtdjldmolhkkipaaGreatDoor
end
section
set_option linter.unusedVariables false
set_option linter.unusedSimpArgs false
namespace Go.Proofs.YtdjldmolhkkipaaGreatDoor
open Go Go.Proofs.YtdjldmolhkkipaaGreatDoor.Eng Go.Proofs.YtdjldmolhkkipaaGreatDoor.Pl
def wf (l:List W32) (i:Nat):Int:=wi (l.getD i 0)
theorem wf_next (l:List W32) (x:W32):updF (wf l) l.length (wi x)=wf (l++[x]):=by
 funext j
 unfold updF wf
 by_cases h:j=l.length
 ·subst h; simp [List.getD_eq_getElem?_getD]
 ·rw [if_neg h]
  by_cases h':j < l.length
  ·simp only [List.getD_eq_getElem?_getD,List.getElem?_append_left h']
  ·simp only [List.getD_eq_getElem?_getD]
   rw [List.getElem?_eq_none (by omega),List.getElem?_eq_none (by simp; omega)]
theorem sMix (b:List UInt8) (s:St5) {K:Int→Int→Int→Int→Int→Prop} (a1 a2 a3 a4 a5 k6)
  (h:K (wi (addS (roundsN (wordsN b 64) s 80) s).a) (wi (addS (roundsN (wordsN b 64) s 80) s).b) (wi (addS (roundsN (wordsN b 64) s 80) s).c) (wi (addS (roundsN (wordsN b 64) s 80) s).d) (wi (addS (roundsN (wordsN b 64) s 80) s).e)) :
  lp (Lq0g_2 Xq08 Xq0l K a1 a2 a3 a4 a5 k6) (((),(),16,()),(wi s.a,wi s.b,wi s.c,wi s.d,wi s.e,()),agL .u32 80 (wf (first b 16)),()):=by
 refine lp_at (fun j=>(((),(),((16+j:Nat):Int),()),(wi s.a,wi s.b,wi s.c,wi s.d,wi s.e,()),agL .u32 80 (wf (wordsN b j)),())) 64 rfl fun n hn k hk=>?_
 unfold Lq0g_2
 simp only [decide_eq_true_eq]
 by_cases e:n=64
 ·subst e
  refine ifF (by omega) ?_
  simp only [agL,List.getElem?_cons_zero,Eng.asAgg]
  refine ifT ⟨by simp,by simp [isC,Value.oneCell']⟩ ?_
  exact sRounds (wordsN b 64) (by rw [wordsN_len]) s _ _ _ _ _ _ _ _ (fun i hi=>by simp [hi,wf]) h
 ·have hn':n < 64:=by omega
  have hk':=hk hn'
  have hl:=wordsN_len b n
  have g:∀ q:Nat,q≤16→w64 (((16+n:Nat):Int) - (q:Int))=((16+n - q:Nat):Int):=fun q hq=>by rw [w64_in (by omega) (by omega)]; omega
  have g3:=g 3 (by omega)
  have g8:=g 8 (by omega)
  have g14:=g 14 (by omega)
  have g16:=g 16 (by omega)
  simp only [show ((3:Nat):Int)=3 from rfl,show ((8:Nat):Int)=8 from rfl,show ((14:Nat):Int)=14 from rfl,show ((16:Nat):Int)=16 from rfl] at g3 g8 g14 g16
  rw [g3,g8,g14,g16]
  simp only [Int.toNat_natCast,Nat.mul_one,Nat.zero_add]
  refine ifT (by omega) (ifT (by omega) (asI (by omega) (ifT (by omega) (asI (by omega) (ifT (by omega) (asI (by omega) ?_))))))
  simp only [lt,wf,wi_xor]
  refine ifT (by omega) (asI (by omega) ?_)
  simp only [wf,wi_xor]
  refine sRot _ 1 (by omega) ?_
  refine ifT (by omega) (ifT (Nat.zero_lt_one) (ifT (by show 16+n+1≤80; omega) ?_))
  have es:=@agL_set .u32 80 (wf (wordsN b n)) (16+n) (wi (rotl ((wordsN b n).getD (16+n - 3) 0 ^^^ (wordsN b n).getD (16+n - 8) 0 ^^^ (wordsN b n).getD (16+n - 14) 0 ^^^ (wordsN b n).getD (16+n - 16) 0) 1)) (by omega)
  have e2:w64 (((16+n:Nat):Int)+1)=((16+(n+1):Nat):Int):=by rw [w64_in (by omega) (by omega)]; omega
  have en:wf (wordsN b (n+1))=updF (wf (wordsN b n)) (16+n) (wi (rotl ((wordsN b n).getD (16+n - 3) 0 ^^^ (wordsN b n).getD (16+n - 8) 0 ^^^ (wordsN b n).getD (16+n - 14) 0 ^^^ (wordsN b n).getD (16+n - 16) 0) 1)):=by
   rw [← hl,wf_next]; rfl
  rw [en] at hk'
  rw [e2]
  refine (congrArg k ?_).mp hk'
  rw [← es]
def BV (l:List UInt8):List V:=l.map cb
theorem BV_get (l:List UInt8) (i:Nat) (h:i < l.length):getC (BV l) i 0=some (cb l[i]):=by
 simp [getC,BV,V.cells,h]
theorem asB {l:List UInt8} {i:Nat} (h:i < l.length) {F:Prop} {K:Int→Prop} (hk:K (bi l[i])):Eng.asInt .u8 (getC (BV l) i 0) F K:=by
 rw [BV_get l i h]; simpa [Eng.asInt] using hk
theorem BV_cut (l:List UInt8) (a n:Nat):cutL (BV l) a n=BV ((l.drop a).take n):=by simp [cutL,BV]
theorem BV_len (l:List UInt8):(BV l).length=l.length:=by simp [BV]
theorem word_snoc (l:List UInt8) (c:UInt8):word (l++[c]) 0=(word l 0 <<< 8 ||| BitVec.ofNat 32 c.toNat):=by simp [word]
theorem sFour (b:List UInt8) (i:Nat) (hi:i < 16) (hb:b.length=64) (X) {K:Int→Int→Int→Int→Int→Prop} (a1 a2 a3 a4 a5) (k6)
  (h:k6 (((),BV b,(),((i+1:Nat):Int),()),X,agL .u32 80 (wf (first b (i+1))),())) :
  lp (Lq0g_1 K a1 a2 a3 a4 a5 k6) (((),BV b,(),(i:Int),(i:Int),BV ((b.drop (4 * i)).take 4),4,0,()),X,agL .u32 80 (wf (first b i)),()):=by
 have hl:((b.drop (4 * i)).take 4).length=4:=by simp; omega
 have hfl:(first b i).length=i:=by simp [first]
 refine lp_at (fun j=>(((),BV b,(),(i:Int),(i:Int),BV ((b.drop (4 * i)).take 4),4,(j:Int),()),X,agL .u32 80 (updF (wf (first b i)) i (wi (word (((b.drop (4 * i)).take 4).take j) 0))),())) 4 ?_ fun n hn k hk=>?_
 ·have:updF (wf (first b i)) i (wi (word (((b.drop (4 * i)).take 4).take 0) 0))=wf (first b i):=by
   funext j
   unfold updF
   split
   ·rename_i e; subst e
    unfold wf
    rw [List.getD_eq_getElem?_getD,List.getElem?_eq_none (by omega)]
    rfl
   ·rfl
  rw [this]; rfl
 ·unfold Lq0g_1
  simp only [decide_eq_true_eq]
  by_cases e:n=4
  ·subst e
   refine ifF (by omega) ?_
   have e1:w64 ((i:Int)+1)=((i+1:Nat):Int):=by rw [w64_in (by omega) (by omega)]; omega
   have e2:updF (wf (first b i)) i (wi (word (((b.drop (4 * i)).take 4).take 4) 0))=wf (first b (i+1)):=by
    have:=wf_next (first b i) (wordAt b i)
    rw [hfl] at this
    rw [List.take_of_length_le (by omega)]
    refine this.trans ?_
    congr 1
    simp [first,List.range_succ]
   rw [e1,e2]
   exact h
  ·have hn':n < 4:=by omega
   have hk':=hk hn'
   rw [BV_len,hl]
   simp only [Int.toNat_natCast,Nat.mul_one,Nat.zero_add]
   refine ifT (by omega) (ifT (by omega) (asB (by omega) (ifT (by omega) (asI (by omega) ?_))))
   have eu:updF (wf (first b i)) i (wi (word (((b.drop (4 * i)).take 4).take n) 0)) i=wi (word (((b.drop (4 * i)).take 4).take n) 0):=by simp [updF]
   rw [eu]
   have e8:=wi_shl (word (((b.drop (4 * i)).take 4).take n) 0) 8
   rw [show ((2:Int) ^ 8)=256 from rfl] at e8
   simp only [lt,e8,wu32_bi,wi_or]
   refine ifT (by omega) (ifT (Nat.zero_lt_one) (ifT (by show i+1≤80; omega) ?_))
   have e1:w64 ((n:Int)+1)=((n+1:Nat):Int):=by rw [w64_in (by omega) (by omega)]; omega
   rw [e1]
   have et:((b.drop (4 * i)).take 4).take (n+1)=((b.drop (4 * i)).take 4).take n++[((b.drop (4 * i)).take 4)[n]]:=by
    rw [List.take_succ_eq_append_getElem (by omega)]
   rw [et,word_snoc] at hk'
   refine (congrArg k ?_).mp hk'
   have es:=@agL_set .u32 80 (updF (wf (first b i)) i (wi (word (((b.drop (4 * i)).take 4).take n) 0))) i (wi (word (((b.drop (4 * i)).take 4).take n) 0 <<< 8 ||| BitVec.ofNat 32 (((b.drop (4 * i)).take 4)[n]).toNat)) (by omega)
   have eq:∀ (f:Nat→Int) (x y:Int),updF (updF f i x) i y=updF f i y:=fun f x y=>by
    funext j; unfold updF; split <;> rfl
   rw [eq] at es
   rw [← es]
theorem sBlock (b:List UInt8) (hb:b.length=64) (s:St5) {K:Int→Int→Int→Int→Int→Prop} (h:K (wi (blockL s b).a) (wi (blockL s b).b) (wi (blockL s b).c) (wi (blockL s b).d) (wi (blockL s b).e)) :
  Xq0g (BV b) (wi s.a) (wi s.b) (wi s.c) (wi s.d) (wi s.e) K:=by
 unfold Xq0g Yq0g
 refine lp_at (fun j=>(((),BV b,(),(j:Int),()),(wi s.a,wi s.b,wi s.c,wi s.d,wi s.e,()),agL .u32 80 (wf (first b j)),())) 16 rfl fun n hn k hk=>?_
 unfold Lq0g_0
 simp only [decide_eq_true_eq]
 by_cases e:n=16
 ·subst e
  refine ifF (by omega) ?_
  exact sMix b s _ _ _ _ _ _ h
 ·have hn':n < 16:=by omega
  have hk':=hk hn'
  have e4:w64 (4 * (n:Int))=((4 * n:Nat):Int):=by rw [w64_in (by omega) (by omega)]; omega
  have e5:w64 (((4 * n:Nat):Int)+4)=((4 * n+4:Nat):Int):=by rw [w64_in (by omega) (by omega)]; omega
  rw [e4,e5,BV_len,hb]
  simp only [lt,Int.toNat_natCast,BV_cut,show 4 * n+4 - 4 * n=4 by omega]
  refine ifT (by omega) (ifT (by omega) (ifT (by omega) ?_))
  have hl:((b.drop (4 * n)).take 4).length=4:=by simp; omega
  rw [BV_len,hl]
  exact sFour b n hn' hb _ _ _ _ _ _ _ hk'
end Go.Proofs.YtdjldmolhkkipaaGreatDoor
end
section
set_option linter.unusedVariables false
set_option linter.unusedSimpArgs false
namespace Go.Proofs.YtdjldmolhkkipaaGreatDoor
open Go Go.Proofs.YtdjldmolhkkipaaGreatDoor.Eng Go.Proofs.YtdjldmolhkkipaaGreatDoor.Pl
set_option maxRecDepth 100000
set_option maxHeartbeats 2000000
theorem sroom (n:Nat) (h:n≤100000000):roomOk n 1=true:=by
 unfold roomOk
 simp only [decide_eq_true_eq]
 omega
theorem ifR (n:Nat) {a b:Prop} (h:n≤100000000) (ha:a):if roomOk n 1=true then a else b:=by rw [if_pos (sroom n h)]; exact ha
def Parts (v:List V) (ps:List (List UInt8)):Prop:=v.length=ps.length∧∀ (i:Nat) (h:i < ps.length),∃ es fl,v[i]? = some (.sl es fl (BV ps[i]))∧(es=1∨ps[i]=[])
theorem asPart {v:List V} {ps:List (List UInt8)} (hp:Parts v ps) {i:Nat} (h:i < ps.length) {F:Prop} {K:Bool→List V→Prop} (hk:∀ fl,K fl (BV ps[i])):Eng.asSl 1 (getC v i 0) F K:=by
 obtain ⟨es,fl,h1,h2⟩:=hp.2 i h
 have:getC v i 0=some (.sl es fl (BV ps[i])):=by simp [getC,h1,V.cells]
 rw [this]
 unfold Eng.asSl
 have hb:(Nat.beq 1 es || (BV ps[i]).isEmpty)=true:=by
  rcases h2 with rfl | h2
  ·rfl
  ·rw [h2]; simp [BV]
 simp only [hb,cond_true]
 exact hk fl
theorem sGrow (n:Nat) (h:n≤1000000) {K:List V→Bool→Bool→Prop} (hk:∀ frz,K [] true frz):Xq06 (n:Int) K:=by
 unfold Xq06 Yq06
 simp only [decide_eq_true_eq]
 have e:w64 ((n:Int) - 0)=(n:Int):=by rw [w64_in (by omega) (by omega)]; omega
 rw [e]
 refine ifF (by omega) (ifC (fun h0=>?_) fun h0=>hk _)
 refine ifT (by omega) (ifR _ ?_ (hk _))
 rw [List.length_replicate,Int.toNat_natCast]
 omega
theorem sflat_len (ps:List (List UInt8)) (j:Nat) (h:j < ps.length):(ps.take (j+1)).flatten=(ps.take j).flatten++ps[j]:=by
 rw [List.take_succ_eq_append_getElem h,List.flatten_append,List.flatten_singleton]
theorem sflat_le (ps:List (List UInt8)) (j:Nat):(ps.take j).flatten.length≤ps.flatten.length:=by
 conv=>rhs; rw [← List.take_append_drop j ps,List.flatten_append,List.length_append]
 omega
theorem sConcat (v:List V) (ps:List (List UInt8)) (hp:Parts v ps) (hn:ps.length≤1000000) (hl:ps.flatten.length≤1000000) {K:List V→Bool→Bool→Prop} (hk:∀ frz,K (BV ps.flatten) true frz) :
  Xq04 v K:=by
 unfold Xq04 Yq04
 rw [hp.1]
 refine lp_at (fun j=>((v,(),((ps.take j).flatten.length:Int),v,(ps.length:Int),(j:Int),()),())) ps.length rfl fun n hn' k hkk=>?_
 unfold Lq04_0
 simp only [decide_eq_true_eq]
 by_cases e:n=ps.length
 ·refine ifF (by omega) ?_
  refine sGrow _ (Nat.le_trans (sflat_le _ _) hl) fun frz=>?_
  rw [hp.1]
  refine lp_at (fun j=>(((),(),v,(ps.length:Int),(j:Int),()),(BV (ps.take j).flatten,true,frz),())) ps.length rfl fun m hm k hkk=>?_
  unfold Lq04_1
  simp only [decide_eq_true_eq]
  by_cases e:m=ps.length
  ·refine ifF (by omega) ?_
   subst e
   rw [List.take_length]; exact hk frz
  ·have hm':m < ps.length:=by omega
   rw [hp.1,Int.toNat_natCast]
   refine ifT (by omega) (ifT (by omega) (asPart hp hm' fun fl=>ifT trivial (ifR _ ?_ ?_)))
   ·rw [BV_len,BV_len]
    have:=sflat_len ps m hm'
    have h2:=sflat_le ps (m+1)
    rw [this,List.length_append] at h2
    omega
   ·have hk':=hkk hm'
    rw [sflat_len ps m hm'] at hk'
    have e1:w64 ((m:Int)+1)=((m+1:Nat):Int):=by rw [w64_in (by omega) (by omega)]; omega
    rw [e1]
    have:BV (ps.take m).flatten++BV ps[m]=BV ((ps.take m).flatten++ps[m]):=by simp [BV]
    rw [this]; exact hk'
 ·have hn2:n < ps.length:=by omega
  rw [hp.1,Int.toNat_natCast]
  refine ifT (by omega) (ifT (by omega) (asPart hp hn2 fun fl=>?_))
  have hk':=hkk hn2
  have h2:=sflat_le ps (n+1)
  rw [sflat_len ps n hn2,List.length_append] at hk' h2
  rw [BV_len]
  have e0:w64 (((ps.take n).flatten.length:Int)+(ps[n].length:Int))=(((ps.take n).flatten.length+ps[n].length:Nat):Int):=by rw [w64_in (by omega) (by omega)]; omega
  have e1:w64 ((n:Int)+1)=((n+1:Nat):Int):=by rw [w64_in (by omega) (by omega)]; omega
  rw [e0,e1]
  exact ifF (by omega) hk'
abbrev t20 (u:Nat→UInt8):T20:=(bi (u 0),bi (u 1),bi (u 2),bi (u 3),bi (u 4),bi (u 5),bi (u 6),bi (u 7),bi (u 8),bi (u 9),bi (u 10),bi (u 11),bi (u 12),bi (u 13),bi (u 14),bi (u 15),bi (u 16),bi (u 17),bi (u 18),bi (u 19),())
def part (u:Nat→UInt8) (i j:Nat):Int:=if j < i then bi (u j) else 0
theorem part_next (u:Nat→UInt8) (i:Nat):updF (part u i) i (bi (u i))=part u (i+1):=by
 funext j
 unfold updF part
 by_cases h:j=i
 ·subst h; simp
 ·rw [if_neg h]
  by_cases h2:j < i
  ·rw [if_pos h2,if_pos (by omega)]
  ·rw [if_neg h2,if_neg (by omega)]
theorem as5 (s:St5) {i:Nat} (h:i < 5) {F:Prop} {K:Int→Prop} (hk:K (wi (s.at i))):Eng.asInt .u32 ([cw s.a,cw s.b,cw s.c,cw s.d,cw s.e][i]?) F K:=by
 have:[cw s.a,cw s.b,cw s.c,cw s.d,cw s.e][i]? = some (cw (s.at i)):=by
  match i,h with
  | 0,_=>rfl
  | 1,_=>rfl
  | 2,_=>rfl
  | 3,_=>rfl
  | 4,_=>rfl
 rw [this]; simpa [Eng.asInt] using hk
theorem wu8_shr (x:Nat) (k:Nat) (hx:x < 18446744073709551616):wu8 (Int.fdiv (x:Int) (2 ^ k))=bi (UInt8.ofNat (x / 2 ^ k)):=by
 rw [Int.fdiv_eq_ediv_of_nonneg _ (by exact_mod_cast Nat.zero_le _)]
 have:((x:Int) / 2 ^ k)=((x / 2 ^ k:Nat):Int):=by exact_mod_cast rfl
 rw [this]
 unfold bi
 rw [UInt8.toNat_ofNat']
 simp only [wu8,IntKind.wrap,IntKind.bits,IntKind.signed]
 simp
theorem set20 (f:Nat→Int):List.set (agL .u8 20 f) 0 (setE (List.getD (agL .u8 20 f) 0 V.bad) 0 [V.c (.int .u8 (f 0)),V.c (.int .u8 (f 1)),V.c (.int .u8 (f 2)),V.c (.int .u8 (f 3)),V.c (.int .u8 (f 4)),V.c (.int .u8 (f 5)),V.c (.int .u8 (f 6)),V.c (.int .u8 (f 7)),V.c (.int .u8 (f 8)),V.c (.int .u8 (f 9)),V.c (.int .u8 (f 10)),V.c (.int .u8 (f 11)),V.c (.int .u8 (f 12)),V.c (.int .u8 (f 13)),V.c (.int .u8 (f 14)),V.c (.int .u8 (f 15)),V.c (.int .u8 (f 16)),V.c (.int .u8 (f 17)),V.c (.int .u8 (f 18)),V.c (.int .u8 (f 19))])=agL .u8 20 f:=by kernel_rfl
theorem asIe {k:IntKind} {n:Nat} {f:Nat→Int} (i:Nat) (h:Nat.blt i n=true) {F:Prop} {K:Int→Prop}:Eng.asInt k (getC (agL k n f) 0 i) F K=K (f i):=by
 have h':i < n:=by rw [Nat.blt_eq] at h; exact h
 rw [agL_get h']
 simp [Eng.asInt]
set_option maxHeartbeats 2000000 in
theorem read20 (u:Nat→UInt8) (f:Nat→Int) (hf:∀ i,i < 20→f i=bi (u i)) {K:T20→Prop}:(Eng.asInt IntKind.u8 (Eng.getC (agL .u8 20 f) (0:Nat) (0:Nat)) False fun m0 =>
  Eng.asInt IntKind.u8 (Eng.getC (agL .u8 20 f) (0:Nat) (1:Nat)) False fun m1 =>
  Eng.asInt IntKind.u8 (Eng.getC (agL .u8 20 f) (0:Nat) (2:Nat)) False fun m2 =>
  Eng.asInt IntKind.u8 (Eng.getC (agL .u8 20 f) (0:Nat) (3:Nat)) False fun m3 =>
  Eng.asInt IntKind.u8 (Eng.getC (agL .u8 20 f) (0:Nat) (4:Nat)) False fun m4 =>
  Eng.asInt IntKind.u8 (Eng.getC (agL .u8 20 f) (0:Nat) (5:Nat)) False fun m5 =>
  Eng.asInt IntKind.u8 (Eng.getC (agL .u8 20 f) (0:Nat) (6:Nat)) False fun m6 =>
  Eng.asInt IntKind.u8 (Eng.getC (agL .u8 20 f) (0:Nat) (7:Nat)) False fun m7 =>
  Eng.asInt IntKind.u8 (Eng.getC (agL .u8 20 f) (0:Nat) (8:Nat)) False fun m8 =>
  Eng.asInt IntKind.u8 (Eng.getC (agL .u8 20 f) (0:Nat) (9:Nat)) False fun m9 =>
  Eng.asInt IntKind.u8 (Eng.getC (agL .u8 20 f) (0:Nat) (10:Nat)) False fun m10 =>
  Eng.asInt IntKind.u8 (Eng.getC (agL .u8 20 f) (0:Nat) (11:Nat)) False fun m11 =>
  Eng.asInt IntKind.u8 (Eng.getC (agL .u8 20 f) (0:Nat) (12:Nat)) False fun m12 =>
  Eng.asInt IntKind.u8 (Eng.getC (agL .u8 20 f) (0:Nat) (13:Nat)) False fun m13 =>
  Eng.asInt IntKind.u8 (Eng.getC (agL .u8 20 f) (0:Nat) (14:Nat)) False fun m14 =>
  Eng.asInt IntKind.u8 (Eng.getC (agL .u8 20 f) (0:Nat) (15:Nat)) False fun m15 =>
  Eng.asInt IntKind.u8 (Eng.getC (agL .u8 20 f) (0:Nat) (16:Nat)) False fun m16 =>
  Eng.asInt IntKind.u8 (Eng.getC (agL .u8 20 f) (0:Nat) (17:Nat)) False fun m17 =>
  Eng.asInt IntKind.u8 (Eng.getC (agL .u8 20 f) (0:Nat) (18:Nat)) False fun m18 =>
  Eng.asInt IntKind.u8 (Eng.getC (agL .u8 20 f) (0:Nat) (19:Nat)) False fun m19 =>
  (if (0:Nat) < List.length (agL .u8 20 f) then
  lt (List.set (agL .u8 20 f) (0:Nat) (Eng.setE (List.getD (agL .u8 20 f) (0:Nat) Eng.V.bad) (0:Nat) [Eng.V.c (Value.int IntKind.u8 m0),Eng.V.c (Value.int IntKind.u8 m1),Eng.V.c (Value.int IntKind.u8 m2),Eng.V.c (Value.int IntKind.u8 m3),Eng.V.c (Value.int IntKind.u8 m4),Eng.V.c (Value.int IntKind.u8 m5),Eng.V.c (Value.int IntKind.u8 m6),Eng.V.c (Value.int IntKind.u8 m7),Eng.V.c (Value.int IntKind.u8 m8),Eng.V.c (Value.int IntKind.u8 m9),Eng.V.c (Value.int IntKind.u8 m10),Eng.V.c (Value.int IntKind.u8 m11),Eng.V.c (Value.int IntKind.u8 m12),Eng.V.c (Value.int IntKind.u8 m13),Eng.V.c (Value.int IntKind.u8 m14),Eng.V.c (Value.int IntKind.u8 m15),Eng.V.c (Value.int IntKind.u8 m16),Eng.V.c (Value.int IntKind.u8 m17),Eng.V.c (Value.int IntKind.u8 m18),Eng.V.c (Value.int IntKind.u8 m19)])) fun v =>
  Eng.asInt IntKind.u8 (Eng.getC v (0:Nat) (0:Nat)) False fun p0 =>
  Eng.asInt IntKind.u8 (Eng.getC v (0:Nat) (1:Nat)) False fun p1 =>
  Eng.asInt IntKind.u8 (Eng.getC v (0:Nat) (2:Nat)) False fun p2 =>
  Eng.asInt IntKind.u8 (Eng.getC v (0:Nat) (3:Nat)) False fun p3 =>
  Eng.asInt IntKind.u8 (Eng.getC v (0:Nat) (4:Nat)) False fun p4 =>
  Eng.asInt IntKind.u8 (Eng.getC v (0:Nat) (5:Nat)) False fun p5 =>
  Eng.asInt IntKind.u8 (Eng.getC v (0:Nat) (6:Nat)) False fun p6 =>
  Eng.asInt IntKind.u8 (Eng.getC v (0:Nat) (7:Nat)) False fun p7 =>
  Eng.asInt IntKind.u8 (Eng.getC v (0:Nat) (8:Nat)) False fun p8 =>
  Eng.asInt IntKind.u8 (Eng.getC v (0:Nat) (9:Nat)) False fun p9 =>
  Eng.asInt IntKind.u8 (Eng.getC v (0:Nat) (10:Nat)) False fun p10 =>
  Eng.asInt IntKind.u8 (Eng.getC v (0:Nat) (11:Nat)) False fun p11 =>
  Eng.asInt IntKind.u8 (Eng.getC v (0:Nat) (12:Nat)) False fun p12 =>
  Eng.asInt IntKind.u8 (Eng.getC v (0:Nat) (13:Nat)) False fun p13 =>
  Eng.asInt IntKind.u8 (Eng.getC v (0:Nat) (14:Nat)) False fun p14 =>
  Eng.asInt IntKind.u8 (Eng.getC v (0:Nat) (15:Nat)) False fun p15 =>
  Eng.asInt IntKind.u8 (Eng.getC v (0:Nat) (16:Nat)) False fun p16 =>
  Eng.asInt IntKind.u8 (Eng.getC v (0:Nat) (17:Nat)) False fun p17 =>
  Eng.asInt IntKind.u8 (Eng.getC v (0:Nat) (18:Nat)) False fun p18 =>
  Eng.asInt IntKind.u8 (Eng.getC v (0:Nat) (19:Nat)) False fun p19 =>
  K (p0,p1,p2,p3,p4,p5,p6,p7,p8,p9,p10,p11,p12,p13,p14,p15,p16,p17,p18,p19,()) else False))=K (t20 u):=by
 rw [asIe 0 rfl,asIe 1 rfl,asIe 2 rfl,asIe 3 rfl,asIe 4 rfl,asIe 5 rfl,asIe 6 rfl,asIe 7 rfl,asIe 8 rfl,asIe 9 rfl,asIe 10 rfl,asIe 11 rfl,asIe 12 rfl,asIe 13 rfl,asIe 14 rfl,asIe 15 rfl,asIe 16 rfl,asIe 17 rfl,asIe 18 rfl,asIe 19 rfl]
 rw [if_pos (show (0:Nat) < List.length (agL .u8 20 f) from Nat.zero_lt_one)]
 rw [set20]
 simp only [lt]
 rw [asIe 0 rfl,asIe 1 rfl,asIe 2 rfl,asIe 3 rfl,asIe 4 rfl,asIe 5 rfl,asIe 6 rfl,asIe 7 rfl,asIe 8 rfl,asIe 9 rfl,asIe 10 rfl,asIe 11 rfl,asIe 12 rfl,asIe 13 rfl,asIe 14 rfl,asIe 15 rfl,asIe 16 rfl,asIe 17 rfl,asIe 18 rfl,asIe 19 rfl]
 rw [hf 0 (by decide),hf 1 (by decide),hf 2 (by decide),hf 3 (by decide),hf 4 (by decide),hf 5 (by decide),hf 6 (by decide),hf 7 (by decide),hf 8 (by decide),hf 9 (by decide),hf 10 (by decide),hf 11 (by decide),hf 12 (by decide),hf 13 (by decide),hf 14 (by decide),hf 15 (by decide),hf 16 (by decide),hf 17 (by decide),hf 18 (by decide),hf 19 (by decide)]
theorem sBytes (s:St5) (u:Nat→UInt8) (hu:∀ n,n < 20→u n=UInt8.ofNat ((s.at (n / 4)).toNat / 2 ^ (24 - 8 * (n % 4)))) {K:T20→Prop} (k6 k9) (h:K (t20 u)) :
  lp (Lq1y_2 K k6 k9) (((),(),0,()),agL .u8 20 (fun _=>0),(wi s.a,wi s.b,wi s.c,wi s.d,wi s.e,()),()):=by
 refine lp_at (fun j=>(((),(),(j:Int),()),agL .u8 20 (part u j),(wi s.a,wi s.b,wi s.c,wi s.d,wi s.e,()),())) 20 rfl fun n hn k hk=>?_
 unfold Lq1y_2
 simp only [decide_eq_true_eq]
 by_cases e:n=20
 ·subst e
  rw [if_neg (show ¬ ((20:Nat):Int) < 20 by omega)]
  rw [read20 u (part u 20) (fun i hi=>if_pos hi)]
  exact h
 ·have hn':n < 20:=by omega
  have hk':=hk hn'
  rw [← part_next] at hk'
  have e4:w64 (Int.tdiv (n:Int) 4)=((n / 4:Nat):Int):=by
   rw [Int.tdiv_eq_ediv_of_nonneg (by omega),w64_in (by omega) (by omega)]; omega
  have e5:w64 (24 - w64 (Int.tmod (n:Int) 4 * 8))=((24 - 8 * (n % 4):Nat):Int):=by
   rw [Int.tmod_eq_emod_of_nonneg (by omega),w64_in (n:=(n:Int) % 4 * 8) (by omega) (by omega),w64_in (by omega) (by omega)]; omega
  have e1:w64 ((n:Int)+1)=((n+1:Nat):Int):=by rw [w64_in (by omega) (by omega)]; omega
  rw [e4,e5,e1]
  simp only [Int.toNat_natCast,Nat.mul_one,Nat.zero_add,lt]
  refine ifT (by omega) (ifT (by omega) (as5 s (by omega) (ifF (by omega) (ifT (by omega) (ifT (Nat.zero_lt_one) (ifT (by show n+1≤20; omega) ?_))))))
  rw [show min (24 - 8 * (n % 4)) 32=24 - 8 * (n % 4) by omega]
  have e8:=wu8_shr (s.at (n / 4)).toNat (24 - 8 * (n % 4)) (Nat.lt_trans (wi_lt _) (by omega))
  rw [show Int.fdiv (wi (s.at (n / 4))) (2 ^ (24 - 8 * (n % 4)))=Int.fdiv ((s.at (n / 4)).toNat:Int) (2 ^ (24 - 8 * (n % 4))) from rfl,e8,← hu n hn']
  refine (congrArg k ?_).mp hk'
  rw [← agL_set (by omega)]
end Go.Proofs.YtdjldmolhkkipaaGreatDoor
end
section
set_option linter.unusedVariables false
set_option linter.unusedSimpArgs false
namespace Go.Proofs.YtdjldmolhkkipaaGreatDoor
open Go Go.Proofs.YtdjldmolhkkipaaGreatDoor.Eng Go.Proofs.YtdjldmolhkkipaaGreatDoor.Pl
set_option maxRecDepth 100000
set_option maxHeartbeats 1000000
theorem zeros20:[Eng.V.agg [V.c (.int .u8 0),V.c (.int .u8 0),V.c (.int .u8 0),V.c (.int .u8 0),V.c (.int .u8 0),V.c (.int .u8 0),V.c (.int .u8 0),V.c (.int .u8 0),V.c (.int .u8 0),V.c (.int .u8 0),V.c (.int .u8 0),V.c (.int .u8 0),V.c (.int .u8 0),V.c (.int .u8 0),V.c (.int .u8 0),V.c (.int .u8 0),V.c (.int .u8 0),V.c (.int .u8 0),V.c (.int .u8 0),V.c (.int .u8 0)]]=agL .u8 20 (fun _=>0):=by kernel_rfl
theorem BV_app (a b:List UInt8):BV a++BV b=BV (a++b):=by simp [BV]
theorem BV_one (c:UInt8):[V.c (.int .u8 (bi c))]=BV [c]:=rfl
theorem BV_rep (n:Nat):List.replicate n (Eng.ofVal (Value.int IntKind.u8 0))=BV (List.replicate n 0):=by
 rw [BV,List.map_replicate]; rfl
theorem be64_len (n:Nat):(be64 n).length=8:=by simp [be64]
theorem be64_get (n j:Nat) (h:j < 8):(be64 n)[j]'(by rw [be64_len]; exact h)=UInt8.ofNat (n / 2 ^ (8 * (7 - j))):=by simp [be64]
theorem sBlocks (l:List UInt8) (hm:l.length % 64=0) (hl:l.length≤1000000) (u:Nat→UInt8) (hu:∀ n,n < 20→u n=UInt8.ofNat (((blocksN l s0 (l.length / 64)).at (n / 4)).toNat / 2 ^ (24 - 8 * (n % 4)))) {K:T20→Prop} (k6) (h:K (t20 u)) :
  lp (Lq1y_1 Xq0g K k6) (((),BV l,(),()),agL .u8 20 (fun _=>0),(wi s0.a,wi s0.b,wi s0.c,wi s0.d,wi s0.e,()),()):=by
 refine lp_at (fun j=>(((),BV (l.drop (64 * j)),(),()),agL .u8 20 (fun _=>0),(wi (blocksN l s0 j).a,wi (blocksN l s0 j).b,wi (blocksN l s0 j).c,wi (blocksN l s0 j).d,wi (blocksN l s0 j).e,()),())) (l.length / 64) rfl fun n hn k hk=>?_
 unfold Lq1y_1
 simp only [decide_eq_true_eq,BV_len,List.length_drop]
 by_cases e:n=l.length / 64
 ·rw [if_neg (by omega)]
  rw [e]
  exact sBytes _ u hu _ _ h
 ·have hn':n < l.length / 64:=by omega
  have hk':=hk hn'
  rw [if_pos (by omega),if_pos (by omega)]
  rw [BV_cut,List.drop_zero]
  refine sBlock _ (by simp; omega) _ ?_
  rw [if_pos (by omega),if_pos (by omega),Int.toNat_natCast,BV_cut,List.drop_drop]
  have e1:(l.drop (64 * n+64)).take (l.length - 64 * n - 64)=l.drop (64 * (n+1)):=by
   rw [List.take_of_length_le (by simp; omega)]; congr 1
  rw [e1]
  exact hk'
theorem sSum (v:List V) (ps:List (List UInt8)) (hp:Parts v ps) (hn:ps.length≤1000000) (hl:ps.flatten.length≤100000) {K:T20→Prop} (h:K (t20 (digest ps.flatten))):Xq1y v K:=by
 unfold Xq1y Yq1y
 refine sConcat v ps hp hn (by omega) fun frz=>?_
 generalize ps.flatten=m at *
 rw [if_pos rfl]
 rw [show V.c (.int .u8 128)=cb 128 from rfl,show [cb 128]=BV [128] from rfl,BV_app]
 simp only [BV_len]
 rw [if_pos (sroom _ (by omega))]
 have e4:w64 (184 - Int.tmod ((m++[128]:List UInt8).length:Int) 64)=((184 - (m.length+1) % 64:Nat):Int):=by
  rw [Int.tmod_eq_emod_of_nonneg (by omega),List.length_append,List.length_singleton,w64_in (by omega) (by omega)]; omega
 have e5:Int.tmod ((184 - (m.length+1) % 64:Nat):Int) 64=(((184 - (m.length+1) % 64) % 64:Nat):Int):=by
  rw [Int.tmod_eq_emod_of_nonneg (by omega)]; omega
 rw [e4]
 simp only [lt,e5,Int.toNat_natCast,BV_rep,BV_app,BV_len]
 rw [if_pos (by omega),if_pos trivial,if_pos (sroom _ (by simp; omega))]
 have e6:wu64 (wu64 (m.length:Int) * 8)=((8 * m.length:Nat):Int):=by
  rw [wu64_in (n:=(m.length:Int)) (by omega) (by omega),wu64_in (by omega) (by omega)]; omega
 rw [e6,zeros20]
 have hlp:(padL m).length≤1000000:=by simp [padL,be64]; omega
 refine lp_at (fun j=>(((),(),((8 * m.length:Nat):Int),7 - (j:Int),()),agL .u8 20 (fun _=>0),(BV (m++[128]++List.replicate ((184 - (m.length+1) % 64) % 64) 0++(be64 (8 * m.length)).take j),true,frz),())) 8 (by simp) fun n hn k hk=>?_
 unfold Lq1y_0
 simp only [decide_eq_true_eq,BV_len,List.length_append,List.length_take,be64_len,List.length_replicate,List.length_singleton]
 by_cases e:n=8
 ·rw [if_neg (by omega)]
  subst e
  rw [List.take_of_length_le (by rw [be64_len]; omega)]
  exact sBlocks (padL m) (padL_len m) hlp (digest m) (fun _ _=>rfl) _ h
 ·have hn':n < 8:=by omega
  have hk':=hk hn'
  have e8:w64 (8 * (7 - (n:Int)))=((8 * (7 - n):Nat):Int):=by rw [w64_in (by omega) (by omega)]; omega
  have e1:w64 (7 - (n:Int) - 1)=7 - ((n+1:Nat):Int):=by rw [w64_in (by omega) (by omega)]; omega
  rw [e8,e1]
  rw [if_pos (by omega),if_neg (by omega),Int.toNat_natCast,show min (8 * (7 - n)) 64=8 * (7 - n) by omega]
  rw [wu8_shr _ _ (by omega)]
  simp only [lt,if_true]
  rw [if_pos (sroom _ (by simp; omega))]
  rw [BV_one,BV_app]
  refine (congrArg k ?_).mp hk'
  rw [List.take_succ_eq_append_getElem (by rw [be64_len]; omega),be64_get _ _ hn',← List.append_assoc]
end Go.Proofs.YtdjldmolhkkipaaGreatDoor
end
section
set_option linter.unusedVariables false
set_option linter.unusedSimpArgs false
namespace Go.Proofs.YtdjldmolhkkipaaGreatDoor
open Go Go.Proofs.YtdjldmolhkkipaaGreatDoor.Eng Go.Proofs.YtdjldmolhkkipaaGreatDoor.Pl
set_option maxRecDepth 100000
set_option maxHeartbeats 1000000
abbrev t5 (w:Nat→W32):T5:=(wi (w 0),wi (w 1),wi (w 2),wi (w 3),wi (w 4),())
def dL (d:Nat→UInt8):List UInt8:=(List.range 20).map d
theorem dL_len (d:Nat→UInt8):(dL d).length=20:=by simp [dL]
theorem dL_get (d:Nat→UInt8) (i:Nat) (h:i < 20):(dL d)[i]'(by rw [dL_len]; exact h)=d i:=by simp [dL]
theorem as20 {d:Nat→UInt8} {i:Nat} (h:i < 20) {F:Prop} {K:Int→Prop} (hk:K (bi (d i))):Eng.asInt .u8 ([V.c (.int .u8 (bi (d 0))),V.c (.int .u8 (bi (d 1))),V.c (.int .u8 (bi (d 2))),V.c (.int .u8 (bi (d 3))),V.c (.int .u8 (bi (d 4))),V.c (.int .u8 (bi (d 5))),V.c (.int .u8 (bi (d 6))),V.c (.int .u8 (bi (d 7))),V.c (.int .u8 (bi (d 8))),V.c (.int .u8 (bi (d 9))),V.c (.int .u8 (bi (d 10))),V.c (.int .u8 (bi (d 11))),V.c (.int .u8 (bi (d 12))),V.c (.int .u8 (bi (d 13))),V.c (.int .u8 (bi (d 14))),V.c (.int .u8 (bi (d 15))),V.c (.int .u8 (bi (d 16))),V.c (.int .u8 (bi (d 17))),V.c (.int .u8 (bi (d 18))),V.c (.int .u8 (bi (d 19)))][i]?) F K:=by
 have:[V.c (.int .u8 (bi (d 0))),V.c (.int .u8 (bi (d 1))),V.c (.int .u8 (bi (d 2))),V.c (.int .u8 (bi (d 3))),V.c (.int .u8 (bi (d 4))),V.c (.int .u8 (bi (d 5))),V.c (.int .u8 (bi (d 6))),V.c (.int .u8 (bi (d 7))),V.c (.int .u8 (bi (d 8))),V.c (.int .u8 (bi (d 9))),V.c (.int .u8 (bi (d 10))),V.c (.int .u8 (bi (d 11))),V.c (.int .u8 (bi (d 12))),V.c (.int .u8 (bi (d 13))),V.c (.int .u8 (bi (d 14))),V.c (.int .u8 (bi (d 15))),V.c (.int .u8 (bi (d 16))),V.c (.int .u8 (bi (d 17))),V.c (.int .u8 (bi (d 18))),V.c (.int .u8 (bi (d 19)))]=(List.range 20).map fun i=>V.c (.int .u8 (bi (d i))):=rfl
 rw [this]
 exact asL h hk
def wv (d:Nat→UInt8) (i j:Nat):Int:=wi (word (((dL d).drop (4 * j)).take (min 4 (i - 4 * j))) 0)
theorem wv_next (d:Nat→UInt8) (i:Nat) (h:i < 20):updF (wv d i) (i / 4) (wi (word (((dL d).drop (4 * (i / 4))).take (min 4 (i - 4 * (i / 4)))) 0 <<< 8 ||| BitVec.ofNat 32 (d i).toNat))=wv d (i+1):=by
 funext j
 unfold updF wv
 by_cases e:j=i / 4
 ·rw [if_pos e,e]
  have e1:min 4 (i - 4 * (i / 4))=i % 4:=by omega
  have e2:min 4 (i+1 - 4 * (i / 4))=i % 4+1:=by omega
  rw [e1,e2,List.take_succ_eq_append_getElem (by rw [List.length_drop,dL_len]; omega),word_snoc,List.getElem_drop]
  have e3:(dL d)[4 * (i / 4)+i % 4]'(by rw [dL_len]; omega)=d i:=by
   rw [dL_get d _ (by omega)]; congr 1; omega
  rw [e3]
 ·rw [if_neg e]
  have:min 4 (i - 4 * j)=min 4 (i+1 - 4 * j):=by omega
  rw [this]
theorem wv_end (d:Nat→UInt8) (j:Nat) (h:j < 5):wv d 20 j=wi (wordsOf d j):=by
 unfold wv wordsOf
 rw [show min 4 (20 - 4 * j)=4 by omega]
 match j,h with
 | 0,_=>rfl
 | 1,_=>rfl
 | 2,_=>rfl
 | 3,_=>rfl
 | 4,_=>rfl
theorem set5 (f:Nat→Int):List.set (agL .u32 5 f) 0 (setE (List.getD (agL .u32 5 f) 0 V.bad) 0 [V.c (.int .u32 (f 0)),V.c (.int .u32 (f 1)),V.c (.int .u32 (f 2)),V.c (.int .u32 (f 3)),V.c (.int .u32 (f 4))])=agL .u32 5 f:=by kernel_rfl
theorem read5 (u:Nat→W32) (f:Nat→Int) (hf:∀ i,i < 5→f i=wi (u i)) {K:T5→Prop}:(Eng.asInt IntKind.u32 (Eng.getC (agL .u32 5 f) (0:Nat) (0:Nat)) False fun m0 =>
  Eng.asInt IntKind.u32 (Eng.getC (agL .u32 5 f) (0:Nat) (1:Nat)) False fun m1 =>
  Eng.asInt IntKind.u32 (Eng.getC (agL .u32 5 f) (0:Nat) (2:Nat)) False fun m2 =>
  Eng.asInt IntKind.u32 (Eng.getC (agL .u32 5 f) (0:Nat) (3:Nat)) False fun m3 =>
  Eng.asInt IntKind.u32 (Eng.getC (agL .u32 5 f) (0:Nat) (4:Nat)) False fun m4 =>
  (if (0:Nat) < List.length (agL .u32 5 f) then
  lt (List.set (agL .u32 5 f) (0:Nat) (Eng.setE (List.getD (agL .u32 5 f) (0:Nat) Eng.V.bad) (0:Nat) [V.c (.int .u32 m0),V.c (.int .u32 m1),V.c (.int .u32 m2),V.c (.int .u32 m3),V.c (.int .u32 m4)])) fun v =>
  Eng.asInt IntKind.u32 (Eng.getC v (0:Nat) (0:Nat)) False fun p0 =>
  Eng.asInt IntKind.u32 (Eng.getC v (0:Nat) (1:Nat)) False fun p1 =>
  Eng.asInt IntKind.u32 (Eng.getC v (0:Nat) (2:Nat)) False fun p2 =>
  Eng.asInt IntKind.u32 (Eng.getC v (0:Nat) (3:Nat)) False fun p3 =>
  Eng.asInt IntKind.u32 (Eng.getC v (0:Nat) (4:Nat)) False fun p4 =>
  K (p0,p1,p2,p3,p4,()) else False))=K (t5 u):=by
 rw [asIe 0 rfl,asIe 1 rfl,asIe 2 rfl,asIe 3 rfl,asIe 4 rfl]
 rw [if_pos (show (0:Nat) < List.length (agL .u32 5 f) from Nat.zero_lt_one)]
 rw [set5]
 simp only [lt]
 rw [asIe 0 rfl,asIe 1 rfl,asIe 2 rfl,asIe 3 rfl,asIe 4 rfl]
 rw [hf 0 (by decide),hf 1 (by decide),hf 2 (by decide),hf 3 (by decide),hf 4 (by decide)]
theorem zeros5:[Eng.V.agg [V.c (.int .u32 0),V.c (.int .u32 0),V.c (.int .u32 0),V.c (.int .u32 0),V.c (.int .u32 0)]]=agL .u32 5 (fun _=>0):=by kernel_rfl
theorem wv_zero (d:Nat→UInt8):agL .u32 5 (wv d 0)=agL .u32 5 (fun _=>0):=agL_congr fun i hi=>by unfold wv; rw [Nat.zero_sub,Nat.min_zero,List.take_zero]; rfl
theorem sWords (d:Nat→UInt8) {K:T5→Prop} (h:K (t5 (wordsOf d))):Xq1a (t20 d) K:=by
 unfold Xq1a Yq1a
 rw [zeros5,← wv_zero d]
 refine lp_at (fun j=>(((),t20 d,(j:Int),()),agL .u32 5 (wv d j),())) 20 rfl fun n hn k hk=>?_
 unfold Lq1a_0
 simp only [decide_eq_true_eq]
 by_cases e:n=20
 ·subst e
  rw [if_neg (by omega)]
  rw [read5 (wordsOf d) (wv d 20) (wv_end d)]
  exact h
 ·have hn':n < 20:=by omega
  have hk':=hk hn'
  rw [← wv_next d n hn'] at hk'
  have e4:w64 (Int.tdiv (n:Int) 4)=((n / 4:Nat):Int):=by
   rw [Int.tdiv_eq_ediv_of_nonneg (by omega),w64_in (by omega) (by omega)]; omega
  have e1:w64 ((n:Int)+1)=((n+1:Nat):Int):=by rw [w64_in (by omega) (by omega)]; omega
  rw [e4,e1]
  simp only [Int.toNat_natCast,Nat.mul_one,Nat.zero_add,lt]
  rw [if_pos (by omega),if_pos (by omega)]
  refine as20 hn' ?_
  rw [if_pos (by omega)]
  refine asI (by omega) ?_
  have e8:=wi_shl (word (((dL d).drop (4 * (n / 4))).take (min 4 (n - 4 * (n / 4)))) 0) 8
  rw [show ((2:Int) ^ 8)=256 from rfl] at e8
  rw [show wv d n (n / 4)=wi (word (((dL d).drop (4 * (n / 4))).take (min 4 (n - 4 * (n / 4)))) 0) from rfl]
  simp only [e8,wu32_bi,wi_or]
  rw [if_pos (by omega),if_pos (show (0:Nat) < List.length (agL .u32 5 (wv d n)) from Nat.zero_lt_one),if_pos (by show n / 4+1≤5; omega)]
  rw [agL_set (by omega)]
  exact hk'
theorem nib (c:UInt8):Int.fdiv (bi c) 16=((c.toNat / 16:Nat):Int):=by
 rw [Int.fdiv_eq_ediv_of_nonneg _ (by omega)]; unfold bi; omega
theorem nib2 (c:UInt8):wu8 ((BitVec.toNat (BitVec.ofInt 8 (bi c) &&& BitVec.ofInt 8 15):Nat):Int)=((c.toNat % 16:Nat):Int):=by
 have h:=bi_lt c
 have:(BitVec.ofInt 8 (bi c) &&& BitVec.ofInt 8 15).toNat=c.toNat % 16:=by
  rw [BitVec.toNat_and]
  rw [show BitVec.toNat (BitVec.ofInt 8 15)=2 ^ 4 - 1 from rfl,Nat.and_two_pow_sub_one_eq_mod]
  rw [BitVec.toNat_ofInt]
  unfold bi
  rw [show (2 ^ 8:Nat)=256 from rfl,show (2 ^ 4:Nat)=16 from rfl]
  omega
 rw [this,wu8_in (by omega) (by omega)]
theorem bAt_hex (n:Nat):Eng.bAt (ByteArray.mk #[(48:UInt8),(49:UInt8),(50:UInt8),(51:UInt8),(52:UInt8),(53:UInt8),(54:UInt8),(55:UInt8),(56:UInt8),(57:UInt8),(97:UInt8),(98:UInt8),(99:UInt8),(100:UInt8),(101:UInt8),(102:UInt8)]) n=bi (hexC n):=rfl
theorem hexN_len (d:Nat→UInt8) (n:Nat):(hexN d n).length=2 * n:=by
 induction n with
 | zero=>rfl
 | succ n ih=>simp [hexN,ih]; omega
theorem allU8_BV (l:List UInt8):allU8 (BV l)=true:=by
 simp [allU8,BV,isU8]
theorem packB_BV (l:List UInt8):packB (BV l)=S l:=by
 unfold packB BV
 rw [List.map_map]
 have:(Eng.byteOf∘cb)=id:=by
  funext c; simp [Eng.byteOf,cb,bi]
 rw [this,List.map_id]
theorem sHex (d:Nat→UInt8) {K:ByteArray→Prop} (h:K (S (hexN d 20))):Xq24 (t20 d) K:=by
 unfold Xq24 Yq24
 refine lp_at (fun j=>((ByteArray.mk #[],(),t20 d,(j:Int),()),BV (hexN d j),())) 20 rfl fun n hn k hk=>?_
 unfold Lq24_0
 simp only [decide_eq_true_eq]
 by_cases e:n=20
 ·subst e
  rw [if_neg (by omega),if_pos (allU8_BV _),packB_BV]
  exact h
 ·have hn':n < 20:=by omega
  have hk':=hk hn'
  have e1:w64 ((n:Int)+1)=((n+1:Nat):Int):=by rw [w64_in (by omega) (by omega)]; omega
  rw [e1]
  simp only [Int.toNat_natCast,Nat.mul_one,Nat.zero_add,lt]
  rw [if_pos (by omega),if_pos (by omega)]
  refine as20 hn' ?_
  have hb:=bi_lt (d n)
  simp only [nib,nib2,Int.toNat_natCast,bAt_hex]
  rw [if_pos (by omega),if_pos (by omega),if_pos (sroom _ (by rw [BV_len,hexN_len]; simp; omega))]
  rw [show [V.c (.int .u8 (bi (hexC ((d n).toNat / 16)))),V.c (.int .u8 (bi (hexC ((d n).toNat % 16))))]=BV [hexC ((d n).toNat / 16),hexC ((d n).toNat % 16)] from rfl,BV_app]
  exact hk'
end Go.Proofs.YtdjldmolhkkipaaGreatDoor
end
section
set_option linter.unusedVariables false
set_option linter.unusedSimpArgs false
namespace Go.Proofs.YtdjldmolhkkipaaGreatDoor.Pl
open Go
def splitL (c:UInt8) (l:List UInt8):List UInt8×List UInt8×Bool:=if nl (· == c) l < l.length then (l.take (nl (· == c) l),l.drop (nl (· == c) l+1),true) else (l,[],false)
def badC (c:UInt8):Bool:=!((97≤c.toNat && c.toNat≤122) || (65≤c.toNat && c.toNat≤90) || (48≤c.toNat && c.toNat≤57) || c.toNat == 43 || c.toNat == 45)
def letC (c:UInt8):Bool:=(97≤c.toNat && c.toNat≤122) || (65≤c.toNat && c.toNat≤90)
def abbrL (l:List UInt8):Bool:=decide (3≤l.length∧l.length≤16) && !l.any badC
structure Ru where
 k:Int
 a:Int
 b:Int
 c:Int
 x:Int
def Ru.z:Ru:=⟨0,0,0,0,0⟩
def Ru.ok (r:Ru):Bool:=rightR r.k r.a r.b r.c r.x
def Ru.txt (r:Ru):List UInt8:=(textL r.k r.a r.b r.c r.x).1
def Ru.at (r:Ru) (y:Int):Int:=ruleDay r.k r.a r.b r.c y * 86400+r.x
structure Ft where
 so:Int
 sd:Bool
 sa:List UInt8
 wo:Int
 wd:Bool
 wa:List UInt8
 has:Bool
 fr:Ru
 «to»:Ru
def Ft.z:Ft:=⟨0,false,[],0,false,[],false,.z,.z⟩
def kindR (o:Int) (d:Bool) (l:List UInt8) (w:Bool):Bool:=abbrL l && (d == w) && decide (-89999≤o∧o≤89999)
def Ft.bare (f:Ft):Prop:=f.wo=0∧f.wd=false∧f.wa=[]∧(f.fr.k=0∧f.fr.a=0∧f.fr.b=0∧f.fr.c=0∧f.fr.x=0)∧(f.«to».k=0∧f.«to».a=0∧f.«to».b=0∧f.«to».c=0∧f.«to».x=0)
instance (f:Ft):Decidable f.bare:=inferInstanceAs (Decidable (_∧_))
def Ft.ok (f:Ft):Bool:=kindR f.so f.sd f.sa false && (if f.has=true then kindR f.wo f.wd f.wa true && f.fr.ok && f.«to».ok else decide f.bare)
def nameT (l:List UInt8):List UInt8:=if l.any (fun c=>!letC c)=true then 60 :: (l++[62]) else l
def Ft.txt (f:Ft):List UInt8:=nameT f.sa++((clockL (-f.so)).1++(if f.has=true then nameT f.wa++((if f.wo - f.so≠3600 then (clockL (-f.wo)).1 else [])++44 :: (f.fr.txt++44 :: f.«to».txt)) else []))
def Ft.text (f:Ft):List UInt8×Bool:=if f.ok=true then (f.txt,true) else ([],false)
structure Us where
 ok:Bool
 rest:List UInt8
 o:Int
 a:List UInt8
structure Rp where
 ok:Bool
 rest:List UInt8
 r:Ru
def Ft.spans (f:Ft) (y:Int):Prop:=f.has=true∧f.ok=true∧1≤y∧y≤9999
instance (f:Ft) (y:Int):Decidable (f.spans y):=inferInstanceAs (Decidable (_∧_))
def Ft.from' (f:Ft) (y:Int):Int:=f.fr.at y - f.so
def Ft.to' (f:Ft) (y:Int):Int:=f.«to».at y - f.wo
def inDays (n:Int):Prop:=-719162≤n / 86400∧n / 86400≤2932896
instance (n:Int):Decidable (inDays n):=inferInstanceAs (Decidable (_∧_))
def Ft.sum (f:Ft) (p:Int):Prop:=inDays (p+f.so)∧f.spans (yearP ((p+f.so) / 86400)) ∧
 ((f.from' (yearP ((p+f.so) / 86400))≤p∧p < f.to' (yearP ((p+f.so) / 86400)))∨(f.to' (yearP ((p+f.so) / 86400))≤f.from' (yearP ((p+f.so) / 86400))∧(f.from' (yearP ((p+f.so) / 86400))≤p∨p < f.to' (yearP ((p+f.so) / 86400)))))
instance (f:Ft) (p:Int):Decidable (f.sum p):=inferInstanceAs (Decidable (_∧_))
end Go.Proofs.YtdjldmolhkkipaaGreatDoor.Pl
end
section
set_option linter.unusedVariables false
set_option linter.unusedSimpArgs false
namespace Go.Proofs.YtdjldmolhkkipaaGreatDoor
open Go Go.Proofs.YtdjldmolhkkipaaGreatDoor.Eng Go.Proofs.YtdjldmolhkkipaaGreatDoor.Pl
theorem sIndex (l:List UInt8) (c:UInt8) {K} (h:K (if nl (· == c) l < l.length then (nl (· == c) l:Int) else -1)):Xq05 (S l) (S [c]) K:=by
 unfold Xq05 Yq05
 simp only [S_size,S_toList,beq_iff_eq,List.length_singleton]
 refine ifF (by decide) (ifC (fun e=>?_) fun _=>ifT rfl (ifT (by decide) ?_))
 ·subst e
  have:nl (· == c) [c]=0:=by rw [nl_cons]; simp
  rw [this] at h; exact h
 ·unfold Xq1c
  rw [indexByte_nl,S_data]
  have:(Eng.bAt (S [c]) 0).toNat.toUInt8=c:=by rw [bAt0]; simp
  rw [this]; exact h
theorem sCut (l:List UInt8) (c:UInt8) (hl:l.length≤140737488351232) {K} (h:K (S (splitL c l).1) (S (splitL c l).2.1) (splitL c l).2.2):Xq0x (S l) (S [c]) K:=by
 unfold Xq0x Yq0x Xq07 Yq07
 refine sIndex l c ?_
 unfold splitL at h
 simp only [S_size,S_extract,List.length_singleton,decide_eq_true_eq,ge_iff_le]
 by_cases e:nl (· == c) l < l.length
 ·rw [if_pos e] at h
  simp only [if_pos e]
  rw [w64_in (by omega) (by omega)]
  refine ifT (by omega) (ifT (by omega) (ifT (by omega) (ifT (by omega) (ifT (by omega) ?_))))
  have e1:Int.toNat ((nl (· == c) l:Int)+((1:Nat):Int))=nl (· == c) l+1:=by omega
  have e2:Int.toNat ((nl (· == c) l:Int))=nl (· == c) l:=by omega
  rw [e1,e2]
  rw [show (l.drop (nl (· == c) l+1)).take (Int.toNat (l.length:Int) - (nl (· == c) l+1))=l.drop (nl (· == c) l+1) from List.take_of_length_le (by simp)]
  exact h
 ·rw [if_neg e] at h
  simp only [if_neg e]
  exact ifF (by omega) h
end Go.Proofs.YtdjldmolhkkipaaGreatDoor
end
section
set_option linter.unusedVariables false
set_option linter.unusedSimpArgs false
namespace Go.Proofs.YtdjldmolhkkipaaGreatDoor
open Go Go.Proofs.YtdjldmolhkkipaaGreatDoor.Eng Go.Proofs.YtdjldmolhkkipaaGreatDoor.Pl
theorem sitoa (n:Int) (h0:-9223372036854775808≤n) (h1:n≤9223372036854775807) {K} (h:K (S (itoaK n))):Xitoa n K :=
 ⟨⟨h0,h1⟩,by rw [← itoaK_eq n h0 h1]; exact h⟩
end Go.Proofs.YtdjldmolhkkipaaGreatDoor
end
section
set_option linter.unusedVariables false
set_option linter.unusedSimpArgs false
namespace Go.Proofs.YtdjldmolhkkipaaGreatDoor
open Go Go.Proofs.YtdjldmolhkkipaaGreatDoor.Eng Go.Proofs.YtdjldmolhkkipaaGreatDoor.Pl
theorem tmod_leap (y:Int):(Int.tmod y 4=0↔y % 4=0)∧(Int.tmod y 100=0↔y % 100=0)∧(Int.tmod y 400=0↔y % 400=0):=by
 refine ⟨?_,?_,?_⟩ <;> rw [← Int.dvd_iff_emod_eq_zero,Int.dvd_iff_tmod_eq_zero]
theorem sleap (y:Int) {K} (h:K (leapY y)):Xq1s y K:=by
 unfold Xq1s Yq1s
 obtain ⟨t1,t2,t3⟩:=tmod_leap y
 have fin:∀ z:Bool,(z=true↔(y % 4=0∧(y % 100≠0∨y % 400=0)))→K z:=fun z hz=>cast (congrArg K (Bool.eq_iff_iff.2 ((leapY_iff y).trans hz.symm))) h
 simp only [beq_iff_eq,bne_iff_ne,ne_eq,t1,t2]
 refine ifC (fun h1=>ifC (fun h2=>fin _ ?_) fun h2=>fin _ ?_) fun h1=>fin _ ?_
 ·simp; omega
 ·rw [beq_iff_eq,t3]; omega
 ·simp; omega
theorem slast (y m:Int) {K} (h:K (if 1≤y∧y≤9999∧1≤m∧m≤12 then dim y m else 0) (decide (1≤y∧y≤9999∧1≤m∧m≤12))):Xq1t y m K:=by
 unfold Xq1t Yq1t
 simp only [decide_eq_true_eq,gt_iff_lt]
 by_cases e:1≤y∧y≤9999∧1≤m∧m≤12
 ·rw [if_pos e,decide_eq_true e] at h
  refine ifF (by omega) (ifF (by omega) (ifF (by omega) (ifF (by omega) ?_)))
  rw [w64_in (by omega) (by omega)]
  refine ifT (by omega) ?_
  rcases month_cases e.2.2.1 e.2.2.2 with rfl | rfl | rfl | rfl | rfl | rfl | rfl | rfl | rfl | rfl | rfl | rfl
  all_goals
   simp only [Int.sub_self,Int.reduceSub,Int.reduceToNat,Nat.reduceMul,List.getElem?_cons_zero,List.getElem?_cons_succ,Eng.asInt,if_true,beq_iff_eq,Int.toNat_zero,Nat.zero_mul,beq_self_eq_true,Int.reduceBEq,Bool.false_eq_true,if_false]
   first
   | exact h
   |(refine sleap _ ?_
     unfold dim at h
     rw [if_pos rfl] at h
     refine ifC (fun hl=>?_) fun hl=>?_
     ·rw [if_pos hl] at h; exact h
     ·rw [if_neg hl] at h; exact h)
 ·rw [if_neg e,decide_eq_false e] at h
  exact ifC (fun _=>h) fun _=>ifC (fun _=>h) fun _=>ifC (fun _=>h) fun _=>ifT (by omega) h
theorem ediv_in (a b:Int) (h0:-9223372036854775808≤a) (h1:a≤9223372036854775807) (hb:1≤b):-9223372036854775808≤a / b∧a / b≤9223372036854775807:=by
 constructor
 ·have:a≤a / b∨0≤a / b:=by
   by_cases hn:0≤a
   ·exact .inr (Int.ediv_nonneg hn (by omega))
   ·refine .inl (Int.le_ediv_of_mul_le (by omega) ?_)
    have:(b - 1) * a≤0:=Int.mul_nonpos_of_nonneg_of_nonpos (by omega) (by omega)
    rw [Int.sub_mul,Int.mul_comm b a] at this
    omega
  omega
 ·have:=Int.ediv_le_self (a:=a) b
  by_cases hn:0≤a
  ·have:=this hn; omega
  ·have:=Int.ediv_neg_of_neg_of_pos (by omega:a < 0) (by omega:0 < b); omega
theorem sdiv (a b:Int) (h0:-9223372036854775808≤a) (h1:a≤9223372036854775807) (hb:1≤b) (hb':b≤9223372036854775807) {K} (h:K (a / b) (a % b) true):Xq22 a b K:=by
 unfold Xq22 Yq22
 have hm:=Int.emod_nonneg a (by omega:b≠0)
 have hm2:=Int.emod_lt_of_pos a (by omega:0 < b)
 obtain ⟨hq1,hq2⟩:=ediv_in a b h0 h1 hb
 simp only [decide_eq_true_eq,lt]
 refine ifF (by omega) (ifF (by omega) (ifF (by omega) ?_))
 by_cases hn:0≤a
 ·rw [Int.tmod_eq_emod_of_nonneg hn,Int.tdiv_eq_ediv_of_nonneg hn]
  refine ifF (by omega) ?_
  rw [w64_in hq1 hq2]; exact h
 ·by_cases hz:a % b=0
  ·have hd:b ∣ a:=Int.dvd_of_emod_eq_zero hz
   have e1:Int.tmod a b=0:=Int.tmod_eq_zero_of_dvd hd
   have e2:Int.tdiv a b=a / b:=by
    obtain ⟨c,rfl⟩:=hd
    rw [Int.mul_tdiv_cancel_left _ (by omega),Int.mul_ediv_cancel_left _ (by omega)]
   rw [e1,e2]
   refine ifF (by omega) ?_
   rw [w64_in hq1 hq2,← hz]; exact h
  ·have e1:Int.tmod a b=a % b - b:=by
    rw [Int.tmod_eq_emod]
    have:¬ (0≤a∨b ∣ a):=by
     rintro (h | h)
     ·exact hn h
     ·exact hz (Int.emod_eq_zero_of_dvd h)
    rw [if_neg this]
    have:(b.natAbs:Int)=b:=by omega
    omega
   have e2:Int.tdiv a b=a / b+1:=by
    have:=Int.mul_tdiv_add_tmod a b
    rw [e1] at this
    have hdm:=Int.mul_ediv_add_emod a b
    have h2:b * (Int.tdiv a b)=b * (a / b+1):=by rw [Int.mul_add]; omega
    exact Int.eq_of_mul_eq_mul_left (by omega) h2
   have hlt:a / b < 0:=Int.ediv_neg_of_neg_of_pos (by omega) (by omega)
   rw [e1,e2]
   refine ifT (by omega) ?_
   rw [w64_in (n:=a / b+1) (by omega) (by omega),w64_in (by omega) (by omega),w64_in (by omega) (by omega),show a / b+1 - 1=a / b by omega,show a % b - b+b=a % b by omega]
   exact h
def okD (y m d:Int):Prop:=1≤y∧y≤9999∧1≤m∧m≤12∧1≤d∧d≤dim y m
instance (y m d:Int):Decidable (okD y m d):=by unfold okD; infer_instance
theorem snum (y m d:Int) (hd0:-9223372036854775808≤d) (hd1:d≤9223372036854775807) {K} (h:K (if okD y m d then num y m d else 0) (decide (okD y m d))):Xq0z y m d K:=by
 unfold Xq0z Yq0z
 refine slast _ _ ?_
 simp only [decide_eq_true_eq,gt_iff_lt,lt]
 by_cases e:1≤y∧y≤9999∧1≤m∧m≤12
 ·rw [decide_eq_true e,if_pos e]
  refine ifF (by simp) ?_
  by_cases e2:1≤d∧d≤dim y m
  ·have ok:okD y m d:=⟨e.1,e.2.1,e.2.2.1,e.2.2.2,e2.1,e2.2⟩
   rw [if_pos ok,decide_eq_true ok] at h
   refine ifF (by omega) (ifF (by omega) ?_)
   have hd:=dim_bd y m
   rw [← numP_eq e.2.2.1 e.2.2.2] at h
   unfold numP sy sm at h
   refine ifC (fun hm=>?_) fun hm=>?_
   ·rw [if_pos hm,if_pos hm] at h
    rw [w64_in (n:=y - 1) (by omega) (by omega)]
    refine sdiv _ _ (by omega) (by omega) (by omega) (by omega) ?_
    have b1:0≤(y - 1) % 400∧(y - 1) % 400≤399:=by omega
    have b2:0≤(y - 1) / 400∧(y - 1) / 400≤25:=by omega
    generalize (y - 1) % 400=r at *
    generalize (y - 1) / 400=q at *
    simp (disch:=omega) only [w64_in,Int.tdiv_eq_ediv_of_nonneg]
    refine cast (congrArg (fun z=>K z true) ?_) h
    omega
   ·rw [if_neg hm,if_neg hm] at h
    refine sdiv _ _ (by omega) (by omega) (by omega) (by omega) ?_
    have b1:0≤y % 400∧y % 400≤399:=by omega
    have b2:0≤y / 400∧y / 400≤25:=by omega
    generalize y % 400=r at *
    generalize y / 400=q at *
    simp (disch:=omega) only [w64_in,Int.tdiv_eq_ediv_of_nonneg]
    refine cast (congrArg (fun z=>K z true) ?_) h
    omega
  ·have ok:¬ okD y m d:=fun h=>e2 h.2.2.2.2
   rw [if_neg ok,decide_eq_false ok] at h
   exact ifC (fun _=>h) fun _=>ifT (by omega) h
 ·have ok:¬ okD y m d:=fun h=>e ⟨h.1,h.2.1,h.2.2.1,h.2.2.2.1⟩
  rw [if_neg ok,decide_eq_false ok] at h
  rw [decide_eq_false e]
  exact ifT rfl h
theorem sday (n:Int) {K} (h:if -719162≤n∧n≤2932896 then K (yearP n) (monP n) (dayP n) true else K 0 0 0 false):Xq1r n K:=by
 unfold Xq1r Yq1r
 simp only [decide_eq_true_eq,gt_iff_lt,lt]
 by_cases e:-719162≤n∧n≤2932896
 ·rw [if_pos e] at h
  refine ifF (by omega) (ifF (by omega) ?_)
  rw [w64_in (n:=n+719468) (by omega) (by omega)]
  refine sdiv _ _ (by omega) (by omega) (by omega) (by omega) ?_
  have b1:0≤(n+719468) / 146097∧(n+719468) / 146097≤25:=by omega
  have b2:0≤(n+719468) % 146097∧(n+719468) % 146097≤146096:=by omega
  have hv:=doy_bd (by omega:-719162≤n) (by omega)
  unfold yearP monP dayP mon doy yrs era ofE at *
  generalize (n+719468) / 146097=q at *
  generalize (n+719468) % 146097=o at *
  have hg:0≤gy o∧gy o≤146096∧gy o=o - o / 1460+o / 36524 - o / 146096:=by unfold gy; omega
  simp (disch:=omega) only [w64_in,Int.tdiv_eq_ediv_of_nonneg]
  rw [← hg.2.2]
  have hY:0≤gy o / 365∧gy o / 365≤400:=by omega
  have hS:st (gy o / 365)=365 * (gy o / 365)+gy o / 365 / 4 - gy o / 365 / 100:=rfl
  rw [hS] at hv h
  generalize o - (365 * (gy o / 365)+gy o / 365 / 4 - gy o / 365 / 100)=D at *
  simp (disch:=omega) only [w64_in,Int.tdiv_eq_ediv_of_nonneg]
  refine ifC (fun hm=>?_) fun hm=>?_
  ·rw [if_pos (by omega),if_pos (by omega)] at h; exact h
  ·rw [if_neg (by omega),if_neg (by omega)] at h; exact h
 ·rw [if_neg e] at h
  exact ifC (fun _=>h) fun _=>ifT (by omega) h
theorem sadd (a b:Int) (ha:-9223372036854775808≤a∧a≤9223372036854775807) (hb:-9223372036854775808≤b∧b≤9223372036854775807) {K}
  (h:if -9223372036854775808≤a+b∧a+b≤9223372036854775807 then K (a+b) true else K 0 false):Xq20 a b K:=by
 unfold Xq20 Yq20
 simp only [lt,bne_iff_ne,ne_eq]
 by_cases e:-9223372036854775808≤a+b∧a+b≤9223372036854775807
 ·rw [if_pos e] at h
  rw [w64_in e.1 e.2]
  exact ifC (fun h1=>ifC (fun h2=>absurd h1 (by simp; omega)) fun _=>h) fun _=>h
 ·rw [if_neg e] at h
  have hw:w64 (a+b)=if a+b < 0 then a+b+18446744073709551616 else a+b - 18446744073709551616:=by
   unfold w64 IntKind.wrap
   simp [IntKind.bits,IntKind.signed]
   split <;> omega
  rw [hw]
  refine ifT ?_ (ifT (by omega) h)
  split <;> simp <;> omega
end Go.Proofs.YtdjldmolhkkipaaGreatDoor
end
section
set_option linter.unusedVariables false
set_option linter.unusedSimpArgs false
namespace Go.Proofs.YtdjldmolhkkipaaGreatDoor
open Go Go.Proofs.YtdjldmolhkkipaaGreatDoor.Eng Go.Proofs.YtdjldmolhkkipaaGreatDoor.Pl
set_option maxRecDepth 100000
set_option maxHeartbeats 2000000
theorem kEnd (n:Int) {K} (h:K (endD n)):Xq1x n K:=by
 unfold Xq1x Yq1x
 refine sday n ?_
 unfold endD at h
 by_cases e:-719162≤n∧n≤2932896
 ·rw [if_pos e]
  rw [decide_eq_true e,Bool.true_and] at h
  refine slast _ _ ?_
  obtain ⟨⟨v1,v2,v3,v4,_⟩,_⟩:=num_date e.1 e.2
  rw [if_pos rfl,if_pos ⟨v1,v2,v3,v4⟩]; exact h
 ·rw [if_neg e]
  rw [decide_eq_false e,Bool.false_and] at h
  refine slast _ _ ?_
  rw [if_neg (by simp)]; exact h
theorem kWrong (k:Nat) (l:LR) (ahead:Int) {K} (h:K (wrongL k l ahead)):Xq13 (k:Int) (l.1,l.2.1,l.2.2,()) ahead K:=by
 unfold Xq13 Yq13
 unfold wrongL at h
 dsimp only
 simp only [decide_eq_true_eq,bne_iff_ne,ne_eq]
 by_cases h1:200≤k
 ·rw [if_pos h1] at h; rw [if_pos (by omega)]; exact h
 rw [if_neg h1] at h; rw [if_neg (by omega)]
 have rest:¬ (l.1 < 730∨2932896≤l.1)→Xq1x l.1 (fun r=>if (!r)=true then K 5 else if ¬ l.2.1=1 then (if ¬ l.2.1=-1 then K 6 else if l.1≤ahead then K 4 else K 0) else if l.1≤ahead then K 4 else K 0):=fun h2=>by
  rw [if_neg h2] at h
  refine kEnd _ ?_
  cases he:endD l.1
  ·rw [if_pos he] at h; exact h
  ·rw [if_neg (by simp [he])] at h
   rw [if_neg (by simp)]
   by_cases s1:l.2.1=1
   ·rw [if_neg (by omega)] at h; rw [if_neg (by omega)]
    by_cases h4:l.1≤ahead
    ·rw [if_pos h4] at h; rw [if_pos h4]; exact h
    ·rw [if_neg h4] at h; rw [if_neg h4]; exact h
   ·rw [if_pos s1]
    by_cases s2:l.2.1=-1
    ·rw [if_neg (by omega)] at h; rw [if_neg (by omega)]
     by_cases h4:l.1≤ahead
     ·rw [if_pos h4] at h; rw [if_pos h4]; exact h
     ·rw [if_neg h4] at h; rw [if_neg h4]; exact h
    ·rw [if_pos ⟨s1,s2⟩] at h; rw [if_pos s2]; exact h
 by_cases h2:l.1 < 730
 ·rw [if_pos (.inl h2)] at h
  rw [if_pos h2,if_pos h2]; exact h
 rw [if_neg h2]
 by_cases h3:l.1≥2932896
 ·rw [if_pos (.inr h3)] at h
  rw [if_pos h3]; exact h
 rw [if_neg h3]
 exact rest (by omega)
theorem kCheck (t:Tb) (hl:t.ls.length≤1000000) {K} (h:K ((checkT t).1:Int) (checkT t).2):Xq14 (TLV t.ls,t.has,t.ex,()) K:=by
 unfold Xq14 Yq14
 rw [TLV_len]
 unfold checkT at h
 refine lp_ind (fun x=>t.ls.length - x.1.2.2.2.2.2.2.1.toNat) (fun x=>∃ (j:Nat) (a:Int),j≤t.ls.length∧729≤a∧a≤2932896∧checkG j a (t.ls.drop j)=checkG 0 729 t.ls ∧
  x=(((),0,0,a,TLV t.ls,(t.ls.length:Int),(j:Int),()),(TLV t.ls,t.has,t.ex,()),())) ?_ ⟨0,729,by omega,by omega,by omega,rfl,rfl⟩
 rintro x ⟨j,a,hj,ha,ha',hc,rfl⟩ k hk
 unfold Lq14_0
 dsimp only
 rw [TLV_len,Int.toNat_natCast]
 by_cases e:j < t.ls.length
 ·rw [if_pos (decide_eq_true (by omega)),if_pos (by omega)]
  refine asL1 e (asL2 e (asL3 e ?_))
  refine kWrong j (t.ls[j]) a ?_
  rw [List.drop_eq_getElem_cons e,checkG] at hc
  by_cases hw:wrongL j t.ls[j] a=0
  ·rw [if_neg (by simp [hw])]
   rw [if_neg (by simp [hw])] at hc
   obtain ⟨_,q1,q2,_⟩:=wrongL_0 hw
   have w1:w64 ((j:Int)+1)=((j+1:Nat):Int):=by rw [w64_in (by omega) (by omega)]; omega
   rw [w1]
   exact hk _ ⟨j+1,_,e,by omega,by omega,hc,rfl⟩ (by show t.ls.length - Int.toNat ((j+1:Nat):Int) < t.ls.length - Int.toNat (j:Int); omega)
  ·rw [if_pos (by simpa using hw)]
   rw [if_pos hw] at hc
   rw [← hc,if_pos hw] at h
   exact h
 ·rw [if_neg (dneg (by omega))]
  have:j=t.ls.length:=by omega
  subst this
  rw [List.drop_length,checkG] at hc
  rw [← hc,if_neg (by simp)] at h
  unfold expB at h
  simp only [lt]
  have w1:w64 (w64 (a+1) * 86400)=(a+1) * 86400:=by rw [w64_in (n:=a+1) (by omega) (by omega),w64_in (by omega) (by omega)]
  rw [w1]
  cases hh:t.has
  ·rw [hh] at h
   rw [if_neg (by simp)]
   rw [if_neg (by simp)] at h
   by_cases h1:t.ex < 0
   ·rw [if_pos (decide_eq_true h1)]
    rw [if_pos (by omega)] at h; exact h
   rw [if_neg (dneg h1)]
   by_cases h2:t.ex > 0
   ·rw [if_pos (decide_eq_true h2)]
    rw [if_pos (by omega)] at h; exact h
   rw [if_neg (dneg h2)]
   rw [if_neg (by omega)] at h; exact h
  ·rw [hh,if_pos rfl] at h
   rw [if_pos rfl]
   generalize (if 63072000 > (a+1) * 86400 then 63072000 else (a+1) * 86400)=M at *
   by_cases h1:t.ex < M
   ·rw [if_pos (decide_eq_true h1)]
    rw [if_pos (.inl h1)] at h; exact h
   rw [if_neg (dneg h1)]
   by_cases h2:t.ex > 253402300799
   ·rw [if_pos (decide_eq_true h2)]
    rw [if_pos (.inr h2)] at h; exact h
   rw [if_neg (dneg h2)]
   rw [if_neg (by omega)] at h; exact h
theorem kRightT (t:Tb) (hl:t.ls.length≤1000000) {K} (h:K (rightT t)):Xq11 (TLV t.ls,t.has,t.ex,()) K:=by
 unfold Xq11 Yq11
 exact kCheck t hl h
theorem kClone (xs:List V) (hl:xs.length≤1000000) {K} (h:∀ f,K xs true f):Xq00 xs K:=by
 unfold Xq00 Yq00
 have hr:Eng.roomOk (0+xs.length) 24=true:=by unfold roomOk; rw [decide_eq_true_eq]; omega
 rw [if_pos hr,List.nil_append]
 by_cases e:xs.length=0
 ·rw [if_pos e]
  have:xs=[]:=List.length_eq_zero_iff.1 e
  subst this
  exact ⟨h _,h _⟩
 ·rw [if_neg e]; exact h _
theorem kAdd (t:Tb) (l:LR) (hl:t.ls.length≤100000) {K} (h:∀ o f,K ((),t.has,t.ex,()) (addT t l).2 (TLV (addT t l).1.ls) o f):Xq1p (TLV t.ls,t.has,t.ex,()) (l.1,l.2.1,l.2.2,()) K:=by
 unfold Xq1p Yq1p
 refine dup_of ?_
 refine kClone _ (by rw [TLV_len]; omega) fun f=>?_
 dsimp only
 rw [if_pos rfl,if_pos (by unfold roomOk; rw [decide_eq_true_eq,TLV_len,List.length_singleton]; omega)]
 simp only [lt]
 have e1:TLV t.ls++[Eng.V.agg [Eng.V.c (Value.int IntKind.i64 l.1),Eng.V.c (Value.int IntKind.i64 l.2.1),Eng.V.c (Value.bool l.2.2)]]=TLV (t.ls++[l]):=by simp [TLV,eLR]
 rw [e1]
 refine kCheck ⟨t.ls++[l],t.has,t.ex⟩ (by simp; omega) ?_
 unfold addT at h
 by_cases hc:(checkT ⟨t.ls++[l],t.has,t.ex⟩).2=0
 ·rw [if_neg (by simp [hc])]
  simp only [hc] at h
  exact h _ _
 ·rw [if_pos (by simpa using hc),if_pos ⟨by omega,trivial,by rw [TLV_len,TLV_len,List.length_append]; omega⟩]
  simp only [if_pos hc] at h
  have e2:List.take (Int.toNat ((TLV t.ls).length:Int)) (TLV (t.ls++[l]))=TLV t.ls:=by
   rw [← e1,Int.toNat_natCast]; simp
  rw [e2]; exact h _ _
end Go.Proofs.YtdjldmolhkkipaaGreatDoor
end
section
set_option linter.unusedVariables false
set_option linter.unusedSimpArgs false
namespace Go.Proofs.YtdjldmolhkkipaaGreatDoor
open Go Go.Proofs.YtdjldmolhkkipaaGreatDoor.Eng Go.Proofs.YtdjldmolhkkipaaGreatDoor.Pl
set_option maxRecDepth 100000
set_option maxHeartbeats 2000000
theorem kPre (n f:List UInt8) {K} (h:K (preB n f)):Xq0b (S n) (S f) K:=by
 unfold Xq0b Yq0b Xq02 Yq02
 simp only [S_size,S_extract,S_toList,decide_eq_true_eq,ge_iff_le,Int.toNat_natCast,List.drop_zero,Nat.sub_zero]
 unfold preB at h
 by_cases e:f.length≤n.length
 ·rw [if_pos (by omega),if_pos (by omega)]; exact h
 ·rw [if_neg (by omega)]
  have:(n.take f.length == f)=false:=by
   simp only [beq_eq_false_iff_ne]
   intro hh
   have:=congrArg List.length hh
   simp at this; omega
  rw [this] at h; exact h
theorem kIndex (l:List UInt8) (c:UInt8) {K} (h:K (if nl (· == c) l < l.length then (nl (· == c) l:Int) else -1)):Xq0p (S l) (S [c]) K:=by
 unfold Xq0p Yq0p
 exact sIndex l c h
theorem kCut (l:List UInt8) (hl:l.length≤140737488351232) {K} (h:∀ b o,K (S (bareL l)) b o):Xq0x (S l) (S [35]) K:=by
 refine sCut l 35 hl ?_
 have:(splitL 35 l).1=bareL l:=by
  unfold splitL bareL
  split
  ·rfl
  ·rename_i hh
   have:=nl_le (· == (35:UInt8)) l
   rw [List.take_of_length_le (by omega)]
 rw [this]; exact h _ _
theorem kTrim (l:List UInt8) (hl:l.length≤140737488351232) {K} (h:K (S (trimR l))):Xq0a (S l) (S [13]) K:=by
 unfold Xq0a Yq0a Xq01 Yq01 Xq03 Yq03
 simp only [S_size,S_extract,S_toList,decide_eq_true_eq,ge_iff_le,List.length_singleton,lt]
 unfold trimR at h
 by_cases e:1≤l.length
 ·have e1:w64 ((l.length:Int) - ((1:Nat):Int))=(l.length:Int) - 1:=w64_in (by omega) (by omega)
  rw [if_pos (by omega),if_pos (by omega),e1,if_pos (by omega)]
  have e2:Int.toNat ((l.length:Int) - 1)=l.length - 1:=by omega
  have e3:(List.take (Int.toNat (l.length:Int) - (l.length - 1)) (List.drop (l.length - 1) l) == [13])=(l.getLast? == some 13):=by
   have:Int.toNat (l.length:Int) - (l.length - 1)=1:=by omega
   rw [this,List.drop_eq_getElem_cons (show l.length - 1 < l.length by omega),List.take_succ_cons,List.take_zero,List.getLast?_eq_getElem?,List.getElem?_eq_getElem (show l.length - 1 < l.length by omega)]
   simp
  rw [e2,e3]
  cases hh:(l.getLast? == some 13)
  ·rw [if_neg (by simp)]
   rw [if_neg (by simpa using hh)] at h; exact h
  ·rw [if_pos rfl,if_pos (by omega),if_pos (by omega)]
   rw [if_pos (by simpa using hh)] at h
   rw [List.dropLast_eq_take] at h
   simpa using h
 ·have:l=[]:=by cases l <;> simp at e ⊢
  subst this
  rw [if_neg (by simp),if_neg (by simp)]
  simpa using h
def e0:V:=.c (.string (S []))
theorem WV_set (done:List (List UInt8)) (k:Nat) (r:List UInt8) :
  List.set (WV done++List.replicate (k+1) e0) done.length (Eng.setE (List.getD (WV done++List.replicate (k+1) e0) done.length Eng.V.bad) 0 [.c (.string (S r))])=WV (done++[r])++List.replicate k e0:=by
 rw [List.replicate_succ]
 have:=WV_len done
 rw [← this,getD_mid,set_mid,WV_app]
 simp [WV,Eng.setE,e0]
theorem kGenLoop (c:UInt8) {K:List V→Bool→Bool→Prop} (k:Nat) (rest:List UInt8) (done:List (List UInt8)) (hb:rest.length+k+done.length≤1000000000) (hk:K (WV (done++splN c k rest)) true false) :
  Eng.lp (Lq0c_0 Xq0p K) ((S rest,S [c],(0:Int),((done.length+k:Nat):Int),(),(),(done.length:Int),()),WV done++List.replicate (k+1) e0,()):=by
 refine lp_ind (fun x=>(x.1.2.2.2.1 - x.1.2.2.2.2.2.2.1).toNat) (fun x=>∃ (k:Nat) (rest:List UInt8) (done:List (List UInt8)),rest.length+k+done.length≤1000000000∧K (WV (done++splN c k rest)) true false ∧
  x=((S rest,S [c],(0:Int),((done.length+k:Nat):Int),(),(),(done.length:Int),()),WV done++List.replicate (k+1) e0,())) ?_ ⟨k,rest,done,hb,hk,rfl⟩
 rintro x ⟨k,rest,done,hb,hk,rfl⟩ kk hkk
 unfold Lq0c_0
 simp only [decide_eq_true_eq,lt,Int.toNat_natCast]
 have l1:(WV done++List.replicate (k+1) e0).length=done.length+(k+1):=by simp [WV_len]
 have l2:∀ r,(WV (done++[r])++List.replicate k e0).length=done.length+(k+1):=fun r=>by simp [WV_len]; omega
 have w1:w64 ((done.length:Int)+1)=(done.length:Int)+1:=w64_in (by omega) (by omega)
 have t1:∀ r,List.take (done.length+1) (WV (done++[r])++List.replicate k e0)=WV (done++[r]):=fun r=>List.take_left' (by simp [WV_len])
 have n1:Int.toNat ((done.length:Int)+1)=done.length+1:=by omega
 simp only [WV_set,l1,l2,w1,n1,Nat.sub_zero,t1]
 by_cases e:k=0
 ·subst e
  rw [if_neg (by omega),if_pos (by omega),if_pos (by omega),if_pos (by omega),if_pos (by omega),if_pos (Nat.ble_eq_true_of_le (by omega))]
  exact hk
 ·obtain ⟨k,rfl⟩:∃ j,k=j+1:=⟨k - 1,by omega⟩
  rw [if_pos (by omega)]
  refine kIndex rest c ?_
  rw [splN] at hk
  by_cases hn:nl (· == c) rest < rest.length
  ·rw [if_pos hn] at hk ⊢
   have w2:w64 ((nl (· == c) rest:Int)+0)=(nl (· == c) rest:Int):=by rw [Int.add_zero]; exact w64_in (by omega) (by omega)
   have w3:w64 ((nl (· == c) rest:Int)+(([c]:List UInt8).length:Int))=(nl (· == c) rest:Int)+1:=by exact w64_in (by simp; omega) (by simp; omega)
   have n2:Int.toNat ((nl (· == c) rest:Int)+1)=nl (· == c) rest+1:=by omega
   simp only [w2,w3,S_size,Int.toNat_natCast,n2,S_extract,WV_set,List.drop_zero,Nat.sub_zero]
   rw [if_neg (by omega),if_pos (by omega),if_pos (by omega),if_pos (by omega),if_pos (by omega),if_pos (by omega),if_pos (by omega)]
   refine hkk _ ⟨k,rest.drop (nl (· == c) rest+1),done++[rest.take (nl (· == c) rest)],?_,?_,?_⟩ ?_
   ·simp; omega
   ·rw [List.append_assoc]; exact hk
   ·have:(rest.drop (nl (· == c) rest+1)).take (rest.length - (nl (· == c) rest+1))=rest.drop (nl (· == c) rest+1):=List.take_of_length_le (by simp)
    rw [this]
    simp only [List.length_append,List.length_singleton,Prod.mk.injEq,true_and,and_true]
    omega
   ·simp; omega
  ·rw [if_neg hn] at hk ⊢
   rw [if_pos (by omega),if_pos (by omega),if_pos (by omega),if_pos (by omega),if_pos (by omega),if_pos (Nat.ble_eq_true_of_le (by omega))]
   exact hk
theorem kSplitN (l:List UInt8) (c:UInt8) (n:Nat) (hn:1≤n) (hn':n≤1000) (hl:l.length≤1000000) {K} (h:K (WV (splN c (n - 1) l)) true false):Xq0n (S l) (S [c]) (n:Int) K:=by
 unfold Xq0n Yq0n Xq0c Yq0c
 simp only [beq_iff_eq,decide_eq_true_eq,lt,kS_nil]
 rw [if_neg (by omega),if_neg (by simp),if_neg (by omega)]
 have w1:w64 (((S l).size:Int)+1)=(l.length:Int)+1:=by rw [S_size]; exact w64_in (by omega) (by omega)
 rw [w1]
 have go:∀ m:Nat,1≤m→m≤n→splN c (m - 1) l=splN c (n - 1) l→(if 0≤(m:Int)∧(m:Int)≤(m:Int)∧(m:Int)≤4294967296 then
   Eng.lp (Lq0c_0 Xq0p fun r3 r4 r5=>K r3 r4 r5) ((S l,S [c],(0:Int),w64 ((m:Int) - 1),(),(),(0:Int),()),List.replicate (Int.toNat (m:Int)) (Eng.ofVal (Value.string (ByteArray.mk #[]))),()) else False):=fun m h1 h2 he=>by
  have w2:w64 ((m:Int) - 1)=((m - 1:Nat):Int):=by rw [w64_in (by omega) (by omega)]; omega
  rw [if_pos (by omega),w2,show Eng.ofVal (Value.string (ByteArray.mk #[]))=e0 from rfl]
  have:=kGenLoop c (K:=fun r3 r4 r5=>K r3 r4 r5) (m - 1) l [] (by simp; omega) (by rw [List.nil_append,he]; exact h)
  have e1:m - 1+1=m:=by omega
  rw [e1] at this
  simpa [WV] using this
 split
 ·rename_i hlt
  have:=go (l.length+1) (by omega) (by omega) (by
   rw [Nat.add_sub_cancel,splN_spl c l.length l List.count_le_length,splN_spl c (n - 1) l (by have:=List.count_le_length (a:=c) (l:=l); omega)])
  simpa using this
 ·exact go n hn (Nat.le_refl _) rfl
theorem kSplit (l:List UInt8) (c:UInt8) (hl:l.length≤2000000) {K} (h:K (WV (spl c l)) true false):Xq0o (S l) (S [c]) K:=by
 unfold Xq0o Yq0o Xq0c Yq0c
 simp only [beq_iff_eq,decide_eq_true_eq,lt,kS_nil]
 rw [if_neg (by omega),if_neg (by simp),if_pos (by omega)]
 refine ⟨c,rfl,?_⟩
 rw [S_data]
 have hc:Lib.countByte l c=l.count c:=rfl
 have hc':=List.count_le_length (a:=c) (l:=l)
 rw [hc]
 dsimp only
 rw [show Eng.ofVal (Value.string (ByteArray.mk #[]))=e0 from rfl]
 have w1:w64 (((S l).size:Int)+1)=(l.length:Int)+1:=by rw [S_size]; exact w64_in (by omega) (by omega)
 have w2:w64 ((l.count c:Int)+1)=((l.count c+1:Nat):Int):=by rw [w64_in (by omega) (by omega)]; omega
 rw [w1,w2,if_neg (show ¬ ((l.length:Int)+1 < ((l.count c+1:Nat):Int)) by omega),if_pos (by omega)]
 have w3:w64 (((l.count c+1:Nat):Int) - 1)=((l.count c:Nat):Int):=by rw [w64_in (by omega) (by omega)]; omega
 rw [w3]
 have:=kGenLoop c (K:=fun r3 r4 r5=>K r3 r4 r5) (l.count c) l [] (by simp; omega) (by rw [List.nil_append,splN_spl c _ l (Nat.le_refl _)]; exact h)
 simpa [WV] using this
theorem kLines (l:List UInt8) (hl:l.length≤2000000) {K} (h:K (WV (linesL l)) true false):Xq0y (S l) K:=by
 unfold Xq0y Yq0y
 refine kSplit l 10 hl ?_
 obtain ⟨q1,q2,q3⟩:=spl_len 10 l
 unfold linesL at h
 generalize spl 10 l=ls at *
 have w1:w64 (((WV ls).length:Int) - 1)=((ls.length - 1:Nat):Int):=by rw [WV_len,w64_in (by omega) (by omega)]; omega
 have step:∀ (n:Nat) (hn:n < ls.length),List.set (WV ((ls.take n).map trimR++ls.drop n)) n (Eng.setE (List.getD (WV ((ls.take n).map trimR++ls.drop n)) n Eng.V.bad) 0 [.c (.string (S (trimR ls[n])))])=WV ((ls.take (n+1)).map trimR++ls.drop (n+1)):=fun n hn=>by
  have hl1:(WV ((ls.take n).map trimR)).length=n:=by simp [WV_len]; omega
  rw [WV_app,List.drop_eq_getElem_cons hn]
  have e1:WV (ls[n] :: ls.drop (n+1)) = .c (.string (S ls[n])) :: WV (ls.drop (n+1)):=rfl
  rw [e1]
  have g:=getD_mid (WV ((ls.take n).map trimR)) V.bad (.c (.string (S ls[n]))) (WV (ls.drop (n+1)))
  have s:=set_mid (WV ((ls.take n).map trimR)) (.c (.string (S (trimR ls[n])))) (.c (.string (S ls[n]))) (WV (ls.drop (n+1)))
  rw [hl1] at g s
  rw [g]
  show List.set _ n (V.c (.string (S (trimR ls[n]))))=_
  rw [s,WV_app,List.take_succ_eq_append_getElem hn,List.map_append,WV_app]
  simp [WV]
 have at':∀ (n:Nat) (hn:n < ls.length),((ls.take n).map trimR++ls.drop n)[n]'(by simp; omega)=ls[n]:=fun n hn=>by
  rw [List.getElem_append_right (by simp; omega)]
  simp [Nat.min_eq_left (Nat.le_of_lt hn)]
 have len':∀ n,n≤ls.length→(WV ((ls.take n).map trimR++ls.drop n)).length=ls.length:=fun n hn=>by simp [WV_len]; omega
 rw [w1,if_pos (by rw [WV_len]; omega)]
 simp only [Int.toNat_natCast,Nat.sub_zero]
 refine asW (by omega) ?_
 rw [kS_nil]
 have hlast:ls.getLast? = some (ls[ls.length - 1]'(by omega)):=by rw [List.getLast?_eq_getElem?,List.getElem?_eq_getElem (by omega)]
 cases he:(ls[ls.length - 1]'(by omega)).isEmpty
 ·have:ls.getLast?≠some []:=by
   rw [hlast]; intro hh
   simp only [Option.some.injEq] at hh
   rw [hh] at he; cases he
  rw [if_neg this] at h
  rw [if_neg (by simp)]
  refine lp_at (fun n=>(((),(),(ls.length:Int),(n:Int),()),(WV ((ls.take n).map trimR++ls.drop n),true,false),())) ls.length (by simp [WV_len]) fun n hn k hk=>?_
  unfold Lq0y_1
  simp only [decide_eq_true_eq,len' n hn,Int.toNat_natCast]
  by_cases e:n < ls.length
  ·rw [if_pos (by omega),if_pos (by omega)]
   refine asW (by simp; omega) ?_
   rw [at' n e]
   refine kTrim _ (by have:=q3 _ (List.getElem_mem e); omega) ?_
   rw [if_pos (by omega),if_pos trivial,if_pos e]
   have:=hk e
   rw [step n e]
   have w2:w64 ((n:Int)+1)=((n+1:Nat):Int):=by rw [w64_in (by omega) (by omega)]; omega
   rw [w2]; exact this
  ·have:n=ls.length:=by omega
   subst this
   rw [if_neg (by omega)]
   simpa using h
 ·have h0:ls[ls.length - 1]'(by omega)=[]:=by simpa using he
  have:ls.getLast? = some []:=by rw [hlast,h0]
  rw [if_pos this] at h
  rw [if_pos rfl,if_pos (by rw [WV_len]; omega),if_pos (by omega)]
  refine lp_at (fun n=>(((),ls.length - 1,((ls.length - 1:Nat):Int),(n:Int),()),(WV ((ls.take n).map trimR++ls.drop n),true,false),())) (ls.length - 1) (by simp) fun n hn k hk=>?_
  unfold Lq0y_0
  simp only [decide_eq_true_eq,len' n (by omega),Int.toNat_natCast,Nat.zero_add]
  by_cases e:n < ls.length - 1
  ·rw [if_pos (by omega),if_pos (by omega)]
   refine asW (by simp; omega) ?_
   rw [at' n (by omega)]
   refine kTrim _ (by have:=q3 _ (List.getElem_mem (show n < ls.length by omega)); omega) ?_
   rw [if_pos (by omega),if_pos trivial,if_pos (by omega)]
   have:=hk e
   rw [step n (by omega)]
   have w2:w64 ((n:Int)+1)=((n+1:Nat):Int):=by rw [w64_in (by omega) (by omega)]; omega
   simp only [lt]
   rw [w2]; exact this
  ·have:n=ls.length - 1:=by omega
   subst this
   rw [if_neg (by omega),if_pos trivial,if_pos trivial,if_pos (Nat.ble_eq_true_of_le (by omega))]
   have e1:List.take (ls.length - 1) (WV ((ls.take (ls.length - 1)).map trimR++ls.drop (ls.length - 1)))=WV (ls.dropLast.map trimR):=by
    rw [WV_app,List.take_left' (by simp [WV_len]),List.dropLast_eq_take]
   rw [e1]; exact h
end Go.Proofs.YtdjldmolhkkipaaGreatDoor
end
section
set_option linter.unusedVariables false
set_option linter.unusedSimpArgs false
namespace Go.Proofs.YtdjldmolhkkipaaGreatDoor
open Go Go.Proofs.YtdjldmolhkkipaaGreatDoor.Eng Go.Proofs.YtdjldmolhkkipaaGreatDoor.Pl
set_option maxRecDepth 100000
set_option maxHeartbeats 2000000
theorem take_more (l:List UInt8) (a p w:Nat) (h:a≤p):(l.drop a).take (p - a)++(l.drop p).take w=(l.drop a).take (p+w - a):=by
 have e:p+w - a=(p - a)+w:=by omega
 rw [e,List.take_add,List.drop_drop]
 congr 2
 congr 1; omega
theorem kWords (l:List UInt8) (hl:l.length≤1000000) {K} (h:K (WV (wordsL l)) true false):Xq0u (S l) K:=by
 unfold Xq0u Yq0u
 rw [if_neg (by rw [S_size]; omega),show S l++ByteArray.mk #[32]=S (l++[32]) from S_append l [32]]
 have hlen:(l++[32]).length=l.length+1:=by simp
 refine lp_ind (fun x=>l.length+1 - x.2.1.2) (fun x=>∃ (pos:Nat) (f:Int) (cur:List UInt8) (done:List (List UInt8)),pos≤l.length+1 ∧
  ((f=-1∧cur=[])∨∃ a:Nat,f=(a:Int)∧a < pos∧pos≤l.length∧cur=(l.drop a).take (pos - a))∧done++wd cur ((l++[32]).drop pos)=wordsL l ∧
  x=((S l,(),f,(),()),(S (l++[32]),pos),WV done,())) ?_ ⟨0,-1,[],[],by omega,.inl ⟨rfl,rfl⟩,by rw [List.drop_zero,List.nil_append,wd_blank]; rfl,rfl⟩
 rintro x ⟨pos,f,cur,done,hp,hf,hw,rfl⟩ k hk
 unfold Lq0u_0
 simp only [S_size,hlen,decide_eq_true_eq]
 have hdl:done.length≤l.length+1:=by
  have h1:=congrArg List.length hw
  have h2:=(wd_len l []).1
  unfold wordsL at h1
  simp at h1; omega
 by_cases e:pos < l.length+1
 ·rw [if_pos e]
  have hpos:pos < (l++[32]).length:=by omega
  have hdrop:(l++[32]).drop pos=(l++[32])[pos] :: (l++[32]).drop (pos+1):=List.drop_eq_getElem_cons hpos
  have key:(blankB (l++[32])[pos]=true∧Utf8.decode (S (l++[32])) pos=((l++[32])[pos].toNat,1)) ∨
    (∃ r w,Utf8.decode (S (l++[32])) pos=(r,w)∧r≠32∧r≠9∧1≤w∧pos+w≤l.length∧∀ c∈(l.drop pos).take w,blankB c=false):=by
   have lastb:∀ w,pos+w≤l.length+1→(∀ c∈((l++[32]).drop pos).take w,blankB c=false)→1≤w→pos+w≤l.length∧∀ c∈(l.drop pos).take w,blankB c=false:=fun w hw1 hw2 hw3=>by
    have hle:pos+w≤l.length:=by
     by_cases e2:pos+w=l.length+1
     ·exfalso
      have:(32:UInt8)∈((l++[32]).drop pos).take w:=by
       have hz:(((l++[32]).drop pos).take w)[w - 1]? = some 32:=by
        rw [List.getElem?_take,if_pos (by omega),List.getElem?_drop,List.getElem?_append_right (by omega)]
        have:pos+(w - 1) - l.length=0:=by omega
        rw [this]; rfl
       exact List.mem_of_getElem? hz
      have:=hw2 _ this
      simp [blankB] at this
     ·omega
    refine ⟨hle,fun c hc=>hw2 c ?_⟩
    rw [List.drop_append_of_le_length (by omega),List.take_append_of_le_length (by simp; omega)]
    exact hc
   by_cases hb:(l++[32])[pos].toNat < 128
   ·have hd:=decode_lo (l++[32]) pos hpos hb
    cases hbl:blankB (l++[32])[pos]
    ·refine .inr ⟨_,1,hd,fun h32=>?_,fun h9=>?_,Nat.le_refl _,lastb 1 (by omega) (fun c hc=>?_) (Nat.le_refl _)⟩
     ·rw [show (l++[32])[pos]=32 from u8_eq h32] at hbl; simp [blankB] at hbl
     ·rw [show (l++[32])[pos]=9 from u8_eq h9] at hbl; simp [blankB] at hbl
     ·rw [hdrop,List.take_succ_cons,List.take_zero,List.mem_singleton] at hc
      rw [hc]; exact hbl
    ·exact .inl ⟨rfl,hd⟩
   ·obtain ⟨d1,d2,d3,d4⟩:=decode_cont (l++[32]) pos hpos (by omega)
    rw [hlen] at d3
    generalize Utf8.decode (S (l++[32])) pos=dc at *
    obtain ⟨r,w⟩:=dc
    dsimp only at d1 d2 d3 d4
    refine .inr ⟨r,w,rfl,by omega,by omega,d2,lastb _ (by omega) (fun c hc=>?_) d2⟩
    have:=d4 c hc
    simp only [blankB,Bool.or_eq_false_iff,beq_eq_false_iff_ne]
    constructor <;> (intro hcc; subst hcc; revert this; decide)
  rcases key with ⟨hbl,hd⟩ | ⟨r,w,hd,n32,n9,w1,hpw,hnb⟩
  ·rw [hd]
   dsimp only
   have hwd:wd cur ((l++[32]).drop pos)=if cur=[] then wd [] ((l++[32]).drop (pos+1)) else cur :: wd [] ((l++[32]).drop (pos+1)):=by
    rw [hdrop,wd,if_pos hbl]
   rw [hwd] at hw
   have val:(((l++[32])[pos].toNat:Int)=32)∨(((l++[32])[pos].toNat:Int)=9):=by
    simp only [blankB,Bool.or_eq_true,beq_iff_eq] at hbl
    rcases hbl with hbl | hbl <;> rw [hbl]
    ·exact .inl rfl
    ·exact .inr rfl
   have next:cur=[]→k ((S l,(),f,(),()),(S (l++[32]),pos+1),WV done,()):=fun hc=>by
    rw [if_pos hc] at hw
    refine hk _ ⟨pos+1,f,[],done,by omega,.inl ⟨?_,rfl⟩,hw,rfl⟩ (by show l.length+1 - (pos+1) < l.length+1 - pos; omega)
    rcases hf with hf | ⟨a,h1,h2,h3,h4⟩
    ·exact hf.1
    ·exfalso
     rw [hc] at h4
     have:=congrArg List.length h4
     simp at this; omega
   have flush:(a:Nat)→f=(a:Int)→a < pos→pos≤l.length→cur=(l.drop a).take (pos - a) →
     (if 0≤(pos:Int)∧(pos:Int)≤(l.length:Int) then
     (if 0≤f∧f≤(pos:Int) then
     (if Eng.roomOk (List.length (WV done)+List.length [Eng.V.c (Value.string (ByteArray.extract (S l) (Int.toNat f) (Int.toNat (pos:Int))))]) (16:Nat)=true then
     k ((S l,(),(-1),(),()),(S (l++[32]),pos+1),WV done++[Eng.V.c (Value.string (ByteArray.extract (S l) (Int.toNat f) (Int.toNat (pos:Int))))],())
     else False) else False) else False):=fun a h1 h2 h3 h4=>by
    subst h1
    have hc:cur≠[]:=fun hc=>by
     rw [hc] at h4
     have:=congrArg List.length h4
     simp at this; omega
    rw [if_neg hc] at hw
    rw [if_pos (by omega),if_pos (by omega),if_pos (by simp [roomOk,WV_len]; omega)]
    have e1:WV done++[Eng.V.c (Value.string (ByteArray.extract (S l) (Int.toNat (a:Int)) (Int.toNat (pos:Int))))]=WV (done++[cur]):=by
     rw [WV_app,h4,S_extract]; rfl
    rw [e1]
    exact hk _ ⟨pos+1,-1,[],done++[cur],by omega,.inl ⟨rfl,rfl⟩,by rw [List.append_assoc]; exact hw,rfl⟩ (by show l.length+1 - (pos+1) < l.length+1 - pos; omega)
   rcases hf with ⟨hf,hc⟩ | ⟨a,h1,h2,h3,h4⟩
   ·have nx:=next hc
    subst hf
    rcases val with v | v <;> rw [v]
    ·rw [if_pos (by simp),if_neg (by omega)]; exact nx
    ·rw [if_neg (by simp),if_pos (by simp),if_neg (by omega),if_neg (by simp)]; exact nx
   ·have fl:=flush a h1 h2 h3 h4
    rcases val with v | v <;> rw [v]
    ·rw [if_pos (by simp),if_pos (by omega)]; exact fl
    ·rw [if_neg (by simp),if_pos (by simp),if_pos (by omega)]; exact fl
  ·rw [hd]
   dsimp only
   rw [if_neg (by simp; omega),if_neg (by simp; omega),if_pos (by simp; omega)]
   have hsk:(l++[32]).drop pos=(l.drop pos).take w++(l++[32]).drop (pos+w):=by
    have:(l++[32]).drop pos=((l++[32]).drop pos).take w++((l++[32]).drop pos).drop w:=(List.take_append_drop w _).symm
    rw [List.drop_drop] at this
    rw [this]
    congr 1
    rw [List.drop_append_of_le_length (by omega),List.take_append_of_le_length (by simp; omega)]
   rw [hsk,wd_skip _ _ _ hnb] at hw
   rcases hf with ⟨hf,hc⟩ | ⟨a,h1,h2,h3,h4⟩
   ·subst hf; subst hc
    rw [if_pos (by omega)]
    exact hk _ ⟨pos+w,(pos:Int),(l.drop pos).take w,done,by omega,.inr ⟨pos,rfl,by omega,hpw,by congr 1; omega⟩,by rw [List.nil_append] at hw; exact hw,rfl⟩ (by show l.length+1 - (pos+w) < l.length+1 - pos; omega)
   ·subst h1
    rw [if_neg (by omega)]
    refine hk _ ⟨pos+w,(a:Int),cur++(l.drop pos).take w,done,by omega,.inr ⟨a,rfl,by omega,hpw,?_⟩,hw,rfl⟩ (by show l.length+1 - (pos+w) < l.length+1 - pos; omega)
    rw [h4,take_more l a pos w (by omega)]
 ·rw [if_neg e]
  have hpe:pos=l.length+1:=by omega
  rcases hf with ⟨hf,hc⟩ | ⟨a,h1,h2,h3,h4⟩
  ·subst hc
   rw [hpe,List.drop_eq_nil_of_le (by omega),wd,if_pos rfl,List.append_nil] at hw
   rw [hw]; exact h
  ·omega
theorem kFold (l:List UInt8) (hl:l.length≤1000000) {K} (h:K (S (foldLw l))):Xq10 (S l) K:=by
 unfold Xq10 Yq10
 rw [bytesV_S,B8_len]
 have cons:∀ n (hn:n < l.length),foldLw (l.take (n+1))++l.drop (n+1)=foldLw (l.take n)++lowB l[n] :: l.drop (n+1):=fun n hn=>by
  unfold foldLw; rw [List.take_succ_eq_append_getElem hn,List.map_append,List.append_assoc]; rfl
 have cons0:∀ n (hn:n < l.length),foldLw (l.take n)++l.drop n=foldLw (l.take n)++l[n] :: l.drop (n+1):=fun n hn=>by
  rw [← List.drop_eq_getElem_cons hn]
 have len:∀ n,n≤l.length→(foldLw (l.take n)++l.drop n).length=l.length:=fun n hn=>by simp [foldLw]; omega
 refine lp_at (fun n=>((ByteArray.mk #[],(),(),(l.length:Int),(n:Int),()),B8 (foldLw (l.take n)++l.drop n),())) l.length (by simp [foldLw]) fun n hn k hk=>?_
 unfold Lq10_0
 simp only [decide_eq_true_eq,B8_len,len n hn,Int.toNat_natCast]
 by_cases e:n < l.length
 ·have hat:(foldLw (l.take n)++l.drop n)[n]'(by rw [len n hn]; exact e)=l[n]:=by
   rw [List.getElem_append_right (by simp [foldLw]; omega)]
   simp [foldLw,Nat.min_eq_left hn]
  have hk:=hk e
  have w1:w64 ((n:Int)+1)=((n+1:Nat):Int):=by rw [w64_in (by omega) (by omega)]; omega
  rw [cons n e] at hk
  rw [if_pos (by omega),if_pos (by omega)]
  refine asB8 (by rw [len n hn]; exact e) ?_
  rw [hat]
  have same:¬ (65≤l[n].toNat∧l[n].toNat≤90)→k ((ByteArray.mk #[],(),(),(l.length:Int),w64 ((n:Int)+1),()),B8 (foldLw (l.take n)++l.drop n),()):=fun hno=>by
   have:lowB l[n]=l[n]:=by unfold lowB; rw [if_neg hno]
   rw [this,← cons0 n e] at hk
   rw [w1]; exact hk
  by_cases h1:(l[n].toNat:Int)≥65
  ·rw [if_pos h1]
   by_cases h2:(l[n].toNat:Int)≤90
   ·rw [if_pos h2]
    rw [if_pos (by omega)]
    refine asB8 (by rw [len n hn]; exact e) ?_
    rw [hat,if_pos (by omega),if_pos e]
    simp only [lt]
    rw [w1]
    have hset:List.set (B8 (foldLw (l.take n)++l.drop n)) n (Eng.setE (List.getD (B8 (foldLw (l.take n)++l.drop n)) n Eng.V.bad) 0 [V.c (Value.int IntKind.u8 (wu8 ((l[n].toNat:Int)+32)))])=B8 (foldLw (l.take n)++lowB l[n] :: l.drop (n+1)):=by
     rw [cons0 n e]
     have b1:∀ x:UInt8,B8 (foldLw (l.take n)++x :: l.drop (n+1))=B8 (foldLw (l.take n))++V.c (.int .u8 (x.toNat:Int)) :: B8 (l.drop (n+1)):=fun x=>by simp [B8]
     have b2:(B8 (foldLw (l.take n))).length=n:=by simp [B8,foldLw]; omega
     rw [b1,b1]
     have g:=getD_mid (B8 (foldLw (l.take n))) V.bad (V.c (.int .u8 (l[n].toNat:Int))) (B8 (l.drop (n+1)))
     rw [b2] at g
     rw [g]
     show List.set _ n (V.c (.int .u8 (wu8 ((l[n].toNat:Int)+32))))=_
     have st:=set_mid (B8 (foldLw (l.take n))) (V.c (.int .u8 (wu8 ((l[n].toNat:Int)+32)))) (V.c (.int .u8 (l[n].toNat:Int))) (B8 (l.drop (n+1)))
     rw [b2] at st
     rw [st]
     have:(lowB l[n]).toNat=l[n].toNat+32:=by
      unfold lowB; rw [if_pos (by omega)]
      rw [UInt8.toNat_ofNat']
      omega
     rw [this,wu8_in (by omega) (by omega)]
     rfl
    rw [hset]; exact hk
   ·rw [if_neg h2]; exact same (by omega)
  ·rw [if_neg h1]; exact same (by omega)
 ·have:n=l.length:=by omega
  subst this
  rw [if_neg (by omega),if_pos (B8_all _),B8_pack]
  simpa using h
theorem and_lo (a:Int) (h0:0≤a) (h1:a≤9223372036854775807):((BitVec.toNat (BitVec.ofInt 64 a &&& BitVec.ofInt 64 4294967295):Nat):Int)=a % 4294967296:=by
 obtain ⟨n,rfl⟩:∃ n:Nat,a=(n:Int):=⟨a.toNat,by omega⟩
 rw [BitVec.toNat_and]
 have e1:(BitVec.ofInt 64 (n:Int)).toNat=n:=by
  rw [BitVec.toNat_ofInt]; omega
 have e2:(BitVec.ofInt 64 4294967295).toNat=2 ^ 32 - 1:=by decide
 rw [e1,e2,Nat.and_two_pow_sub_one_eq_mod]
 omega
theorem kMul (a:Int) (h0:0≤a) (h1:a≤9223372036854775807) {K} (h:K (if a * 10≤9223372036854775807 then a * 10 else 0) (decide (a * 10≤9223372036854775807))):Xq1z a 10 K:=by
 unfold Xq1z Yq1z Xq1n Yq1n Xq0h Yq0h
 simp only [decide_eq_true_eq,lt]
 rw [if_neg (by omega),if_neg (by omega),wu64_in (n:=a) h0 (by omega),wu64_in (n:=10) (by omega) (by omega)]
 have b0:((BitVec.toNat (BitVec.ofInt 64 10 &&& BitVec.ofInt 64 4294967295):Nat):Int)=10:=by decide
 rw [and_lo a h0 h1,b0]
 have fd:∀ x:Int,0≤x→Int.fdiv x 4294967296=x / 4294967296:=fun x hx=>Int.fdiv_eq_ediv_of_nonneg _ (by omega)
 have x0:0≤a % 4294967296∧a % 4294967296 < 4294967296:=by omega
 have x1:0≤a / 4294967296∧a / 4294967296 < 2147483648:=by omega
 rw [fd a h0,show Int.fdiv 10 4294967296=0 from by decide]
 generalize hA:a % 4294967296=A at *
 generalize hB:a / 4294967296=B at *
 have ha:a=B * 4294967296+A:=by omega
 rw [wu64_in (n:=A) (by omega) (by omega),wu64_in (n:=10) (by omega) (by omega),wu64_in (n:=A * 10) (by omega) (by omega),wu64_in (n:=B * 10) (by omega) (by omega),Int.mul_zero,Int.mul_zero,wu64_in (n:=0) (by omega) (by omega)]
 rw [fd (A * 10) (by omega)]
 generalize hC:A * 10 / 4294967296=C at *
 have hc:0≤C∧C≤9:=by omega
 rw [wu64_in (n:=B * 10+C) (by omega) (by omega),and_lo (B * 10+C) (by omega) (by omega),fd (B * 10+C) (by omega)]
 generalize hD:(B * 10+C) % 4294967296=D at *
 generalize hE:(B * 10+C) / 4294967296=E at *
 have hd:0≤D∧D < 4294967296:=by omega
 have he:0≤E∧E≤4:=by omega
 rw [wu64_in (n:=D) (by omega) (by omega),Int.add_zero,wu64_in (n:=D) (by omega) (by omega),fd D (by omega),Int.zero_add,wu64_in (n:=E) (by omega) (by omega)]
 have hd0:D / 4294967296=0:=by omega
 rw [hd0,Int.add_zero,wu64_in (n:=E) (by omega) (by omega)]
 rw [if_neg (by simp; omega)]
 by_cases hE0:E=0
 ·have hm:a * 10≤18446744073709551615:=by omega
  rw [if_neg (by simp [hE0]),wu64_in (n:=a * 10) (by omega) hm]
  by_cases hx:a * 10≤9223372036854775807
  ·rw [if_pos hx,decide_eq_true hx] at h
   rw [if_neg (by omega),w64_in (by omega) hx]; exact h
  ·rw [if_neg hx,decide_eq_false hx] at h
   rw [if_pos (by omega)]; exact h
 ·have hx:¬ a * 10≤9223372036854775807:=by omega
  rw [if_neg hx,decide_eq_false hx] at h
  rw [if_pos (by simp [hE0])]; exact h
theorem foldl_ge:∀ (b:List UInt8) (n:Nat),n≤b.foldl (fun n c=>10 * n+(c.toNat - 48)) n
 | [],n=>Nat.le_refl _
 | c :: b,n=>by
  rw [List.foldl_cons]
  have:=foldl_ge b (10 * n+(c.toNat - 48))
  omega
theorem val_take (l:List UInt8) (n:Nat) (hn:n < l.length):valL (l.take (n+1))=10 * valL (l.take n)+(l[n].toNat - 48):=by
 unfold valL; rw [List.take_succ_eq_append_getElem hn,List.foldl_append]; rfl
theorem val_pre (l:List UInt8) (n:Nat):valL (l.take n)≤valL l:=by
 have:valL l=(l.drop n).foldl (fun n c=>10 * n+(c.toNat - 48)) (valL (l.take n)):=by
  unfold valL
  rw [← List.foldl_append,List.take_append_drop]
 rw [this]
 exact foldl_ge _ _
theorem kNumber (l:List UInt8) (hl:l.length≤1000000) {K} (h:K (numL l).1 (numL l).2):Xq0r (S l) K:=by
 unfold Xq0r Yq0r
 rw [bytesV_S,B8_len]
 refine lp_ind (fun x=>(l.length:Int).toNat - x.1.2.2.2.2.2.1.toNat) (fun x=>∃ n:Nat,n≤l.length∧(∀ c∈l.take n,isDig c=true)∧valL (l.take n)≤9223372036854775807 ∧
  x=((S l,(valL (l.take n):Int),false,(),(l.length:Int),(n:Int),()),B8 l,())) ?_ ⟨0,by omega,by simp,by simp [valL],rfl⟩
 rintro x ⟨n,hn,hd,hv,rfl⟩ k hk
 unfold Lq0r_0
 simp only [decide_eq_true_eq,B8_len,Int.toNat_natCast,S_size]
 by_cases e:n < l.length
 ·have bad:numL l=(0,false)→K 0 false:=fun hb=>by rw [hb] at h; exact h
  rw [if_pos (by omega),if_pos (by omega)]
  refine asB8 e ?_
  have hc:=u8_lt l[n]
  have w1:w64 (w64 (l[n].toNat:Int) - 48)=(l[n].toNat:Int) - 48:=by rw [w64_in (n:=(l[n].toNat:Int)) (by omega) (by omega),w64_in (by omega) (by omega)]
  rw [w1]
  have hdig:isDig l[n]=decide (48≤l[n].toNat∧l[n].toNat≤57):=by unfold isDig; simp
  have nod:isDig l[n]=false→numL l=(0,false):=fun hno=>by
   unfold numL
   rw [if_neg]
   rintro ⟨_,h2,_⟩
   have:=List.all_eq_true.1 h2 l[n] (List.getElem_mem e)
   rw [hno] at this; cases this
  refine kMul _ (by omega) (by omega) ?_
  by_cases hm:(valL (l.take n):Int) * 10≤9223372036854775807
  ·rw [if_pos hm,decide_eq_true hm]
   refine sadd _ _ (by omega) (by omega) ?_
   by_cases d1:(l[n].toNat:Int) < 48
   ·have g:isDig l[n]=false:=by rw [hdig]; simp; omega
    have:=bad (nod g)
    split <;> first | exact this | (rw [if_pos d1]; exact this)
   by_cases d2:(l[n].toNat:Int) > 57
   ·have g:isDig l[n]=false:=by rw [hdig]; simp; omega
    have:=bad (nod g)
    split <;> first | exact this | (rw [if_neg d1,if_pos d2]; exact this)
   have g:isDig l[n]=true:=by rw [hdig]; simp; omega
   have hvt:=val_take l n e
   split
   ·rename_i hs
    rw [if_neg (by simp),if_neg (by simp)]
    refine hk _ ⟨n+1,e,fun c hc=>?_,by omega,?_⟩ ?_
    ·rw [List.take_succ_eq_append_getElem e,List.mem_append,List.mem_singleton] at hc
     rcases hc with hc | rfl
     ·exact hd c hc
     ·exact g
    ·have w2:w64 ((n:Int)+1)=((n+1:Nat):Int):=by rw [w64_in (by omega) (by omega)]; omega
     rw [w2]
     simp only [Prod.mk.injEq,true_and,and_true]
     omega
    ·have w2:w64 ((n:Int)+1)=((n+1:Nat):Int):=by rw [w64_in (by omega) (by omega)]; omega
     simp only [w2]; omega
   ·rename_i hs
    rw [if_neg (by simp),if_pos (by simp)]
    refine bad ?_
    unfold numL
    rw [if_neg]
    rintro ⟨_,_,h3⟩
    have:=val_pre l (n+1)
    omega
  ·rw [if_neg hm,decide_eq_false hm]
   have big:numL l=(0,false):=by
    cases hdg:isDig l[n]
    ·exact nod hdg
    ·unfold numL
     rw [if_neg]
     rintro ⟨_,_,h3⟩
     have:=val_pre l (n+1)
     have:=val_take l n e
     omega
   refine sadd _ _ (by omega) (by omega) ?_
   rw [if_pos (by omega)]
   repeat' split
   all_goals first | exact bad big | (exfalso; simp_all)
 ·have:n=l.length:=by omega
  subst this
  rw [if_neg (by omega)]
  rw [List.take_length] at *
  unfold numL at h
  by_cases hne:l=[]
  ·subst hne
   rw [if_neg (by simp)] at h
   simpa [valL] using h
  ·have hl0:0 < l.length:=List.length_pos_iff.2 hne
   rw [if_pos ⟨hne,List.all_eq_true.2 hd,hv⟩] at h
   have:decide ((l.length:Int) > 0)=true:=by simp; omega
   rw [this]; exact h
end Go.Proofs.YtdjldmolhkkipaaGreatDoor
end
section
set_option linter.unusedVariables false
set_option linter.unusedSimpArgs false
namespace Go.Proofs.YtdjldmolhkkipaaGreatDoor
open Go Go.Proofs.YtdjldmolhkkipaaGreatDoor.Eng Go.Proofs.YtdjldmolhkkipaaGreatDoor.Pl
set_option maxRecDepth 100000
set_option maxHeartbeats 2000000
theorem wi32_in {n:Int} (h0:0≤n) (h1:n≤2147483647):wi32 n=n:=by
 simp only [wi32,IntKind.wrap,IntKind.bits,IntKind.signed]
 try simp
 try omega
theorem eDigit (n:Int) {K:Int→Bool→Prop} (h1:48≤n→n≤57→K (n - 48) true) (h2:97≤n→n≤102→K (n - 87) true) (h3:65≤n→n≤70→K (n - 55) true)
  (h4:¬ (48≤n∧n≤57)→¬ (97≤n∧n≤102)→¬ (65≤n∧n≤70)→K 0 false):Xq1e n K:=by
 have w1:48≤n→n≤57→wu32 (wi32 (n - 48))=n - 48:=fun a b=>by rw [wi32_in (by omega) (by omega),wu32_in (by omega) (by omega)]
 have w2:97≤n→n≤102→wu32 (wu32 (wi32 (n - 97))+10)=n - 87:=fun a b=>by rw [wi32_in (by omega) (by omega),wu32_in (n:=n - 97) (by omega) (by omega),wu32_in (by omega) (by omega)]; omega
 have w3:65≤n→n≤70→wu32 (wu32 (wi32 (n - 65))+10)=n - 55:=fun a b=>by rw [wi32_in (by omega) (by omega),wu32_in (n:=n - 65) (by omega) (by omega),wu32_in (by omega) (by omega)]; omega
 unfold Xq1e Yq1e
 simp only [decide_eq_true_eq,ge_iff_le,lt]
 repeat' (first | refine ifT (by omega) ?_ | refine ifF (by omega) ?_ | refine ifC (fun _=>?_) (fun _=>?_))
 all_goals first
  | exact h4 (by omega) (by omega) (by omega)
  |(rw [w1 (by omega) (by omega)]; exact h1 (by omega) (by omega))
  |(rw [w2 (by omega) (by omega)]; exact h2 (by omega) (by omega))
  |(rw [w3 (by omega) (by omega)]; exact h3 (by omega) (by omega))
theorem hexV_snoc (l:List UInt8) (c:UInt8):hexV (l++[c])=16 * hexV l+hexD c:=by simp [hexV]
theorem hexD_lt (c:UInt8) (h:isHex c=true):hexD c < 16:=by
 unfold isHex at h
 simp only [Bool.or_eq_true,Bool.and_eq_true,decide_eq_true_eq] at h
 unfold hexD
 split
 ·omega
 ·split <;> omega
theorem hexV_lt (l:List UInt8):∀ n,n≤l.length→(l.take n).all isHex=true→hexV (l.take n) < 16 ^ n
 | 0,_,_=>by rw [List.take_zero]; decide
 | n+1,hn,h=>by
  have e:l.take (n+1)=l.take n++[l[n]]:=List.take_succ_eq_append_getElem (by omega)
  rw [e,List.all_append,Bool.and_eq_true] at h
  have ih:=hexV_lt l n (by omega) h.1
  have hd:=hexD_lt l[n] (by simpa using h.2)
  rw [e,hexV_snoc,Nat.pow_succ]
  omega
theorem eWord (l:List UInt8) {K:Int→Bool→Prop} (h:K (if wordOk l=true then (hexV l:Int) else 0) (wordOk l)):Xq1q (S l) K:=by
 unfold Xq1q Yq1q
 rw [S_size,kS_eq _ []]
 have no:wordOk l=false→K 0 false:=fun e=>by rw [e] at h; exact h
 by_cases e0:l=[]
 ·rw [if_pos (by simp [e0])]; exact no (by rw [e0]; rfl)
 rw [if_neg (by simpa using e0)]
 have hpos:1≤l.length:=by cases l with
  | nil=>exact absurd rfl e0
  | cons=>simp
 by_cases e8:l.length > 8
 ·rw [if_pos (by simp; omega)]; exact no (by unfold wordOk; rw [decide_eq_false (by omega),Bool.false_and])
 rw [if_neg (by simp; omega)]
 refine lp_ind (fun x=>l.length - x.2.1.2) (fun x=>∃ pos,pos≤l.length∧(l.take pos).all isHex=true∧x=(((hexV (l.take pos):Int),false,(),()),(S l,pos),())) ?_ ⟨0,Nat.zero_le _,rfl,rfl⟩
 rintro x ⟨pos,hp,ha,rfl⟩ k hk
 unfold Lq1q_0
 simp only [S_size]
 by_cases e:pos < l.length
 ·rw [if_pos e]
  have hsn:l.take (pos+1)=l.take pos++[l[pos]]:=List.take_succ_eq_append_getElem e
  have bad:isHex l[pos]=false→K 0 false:=fun hb=>no (by
   unfold wordOk
   rw [List.all_eq_false.2 ⟨l[pos],List.getElem_mem e,by simp [hb]⟩,Bool.and_false])
  by_cases lo:l[pos].toNat < 128
  ·simp only [decode_lo l pos e lo]
   have step:∀ d:Int,isHex l[pos]=true→d=(hexD l[pos]:Int)→(if (!true)=true then K 0 false else lt (wu32 (wu32 ((hexV (l.take pos):Int) * 16)+d)) fun v5=>k ((v5,false,(),()),(S l,pos+1),())):=fun d hx hd=>by
    have ha':(l.take (pos+1)).all isHex=true:=by rw [hsn,List.all_append,ha]; simpa using hx
    have hv:=hexV_lt l (pos+1) e ha'
    have hv8:16 ^ (pos+1)≤16 ^ 8:=Nat.pow_le_pow_right (by decide) (by omega)
    have p8:16 ^ 8=4294967296:=by decide
    have es:hexV (l.take (pos+1))=16 * hexV (l.take pos)+hexD l[pos]:=by rw [hsn,hexV_snoc]
    rw [if_neg (by simp),hd,wu32_in (n:=(hexV (l.take pos):Int) * 16) (by omega) (by omega),wu32_in (by omega) (by omega)]
    simp only [lt]
    rw [show (hexV (l.take pos):Int) * 16+(hexD l[pos]:Int)=((hexV (l.take (pos+1)):Nat):Int) by omega]
    exact hk _ ⟨pos+1,e,ha',rfl⟩ (by dsimp only; omega)
   refine eDigit _ (fun a b=>step _ ?_ ?_) (fun a b=>step _ ?_ ?_) (fun a b=>step _ ?_ ?_) (fun a b c=>?_)
   ·unfold isHex; simp; omega
   ·unfold hexD; rw [if_pos (by omega)]; omega
   ·unfold isHex; simp; omega
   ·unfold hexD; rw [if_neg (by omega),if_pos (by omega)]; omega
   ·unfold isHex; simp; omega
   ·unfold hexD; rw [if_neg (by omega),if_neg (by omega)]; omega
   ·rw [if_pos (by simp)]; refine bad ?_
    unfold isHex; simp; omega
  ·obtain ⟨d1,_⟩:=decode_hi l pos e (by omega)
   refine eDigit _ (fun a b=>by omega) (fun a b=>by omega) (fun a b=>by omega) (fun a b c=>?_)
   rw [if_pos (by simp)]; refine bad ?_
   unfold isHex; simp; omega
 ·have:pos=l.length:=by omega
  subst this
  rw [if_neg (by omega)]
  rw [List.take_length] at ha ⊢
  have ok:wordOk l=true:=by unfold wordOk; rw [ha,decide_eq_true (by omega)]; rfl
  rw [ok,if_pos rfl] at h
  exact h
theorem eset5z (f z:Nat→Int):List.set (agL .u32 5 z) 0 (setE (List.getD (agL .u32 5 z) 0 V.bad) 0 [V.c (.int .u32 (f 0)),V.c (.int .u32 (f 1)),V.c (.int .u32 (f 2)),V.c (.int .u32 (f 3)),V.c (.int .u32 (f 4))])=agL .u32 5 f:=by kernel_rfl
theorem eHash (l:List UInt8) (hl:l.length≤1000000) {K:T5→Bool→Prop} (h:K (t5 (hashW l)) (hashOk l)):Xq1v (S l) K:=by
 unfold Xq1v Yq1v
 refine kWords l hl ?_
 rw [WV_len]
 have no:hashOk l=false→K (0,0,0,0,0,()) false:=fun e=>by
  have:t5 (hashW l)=(0,0,0,0,0,()):=by
   have z:∀ k,hashW l k=0:=fun k=>by unfold hashW; rw [e]; rfl
   simp only [t5,z]; rfl
  rw [this,e] at h; exact h
 by_cases e5:(wordsL l).length=5
 ·rw [if_neg (by simp; omega),zeros5]
  have bad:∀ n,n < 5→wordOk ((wordsL l).getD n [])=false→hashOk l=false:=fun n hn hb=>by
   unfold hashOk
   rw [List.all_eq_false.2 ⟨(wordsL l).getD n [],by rw [getD_in _ _ _ (by omega)]; exact List.getElem_mem _,by simpa using hb⟩,Bool.and_false]
  refine lp_ind (fun x=>5 - x.1.2.2.2.2.1.toNat) (fun x=>∃ (n:Nat) (o:Bool),n≤5∧(∀ i,i < n→wordOk ((wordsL l).getD i [])=true) ∧
   x=(((),o,(),(((wordsL l).length:Nat):Int),(n:Int),()),agL .u32 5 (fun i=>if i < n then (hexV ((wordsL l).getD i []):Int) else 0),(WV (wordsL l),true,false),())) ?_ ⟨0,false,by omega,by omega,rfl⟩
  rintro x ⟨n,o,hn,ha,rfl⟩ k hk
  unfold Lq1v_0
  dsimp only
  rw [Int.toNat_natCast,WV_len,e5,agL_len]
  by_cases en:n < 5
  ·rw [if_pos (decide_eq_true (by omega)),if_pos (by omega)]
   refine asWd (by omega) (eWord _ ?_)
   rw [if_pos (by omega),if_pos (by omega),if_pos (by rw [List.length_singleton]; omega)]
   simp only [lt]
   rw [show 0+n * 1=n by omega,agL_set en,agL_len]
   cases hc:wordOk ((wordsL l).getD n [])
   ·rw [if_pos (by simp),if_pos (by omega)]
    have:=eset5z (fun _=>0) (updF (fun i=>if i < n then (hexV ((wordsL l).getD i []):Int) else 0) n (if false=true then (hexV ((wordsL l).getD n []):Int) else 0))
    rw [this]
    rw [asIe 0 rfl,asIe 1 rfl,asIe 2 rfl,asIe 3 rfl,asIe 4 rfl]
    exact no (bad n en hc)
   ·rw [if_neg (by simp),if_pos rfl]
    have w1:w64 ((n:Int)+1)=((n+1:Nat):Int):=by rw [w64_in (by omega) (by omega)]; omega
    rw [w1]
    refine hk _ ⟨n+1,true,en,fun i hi=>?_,?_⟩ (by show 5 - Int.toNat ((n+1:Nat):Int) < 5 - Int.toNat (n:Int); omega)
    ·by_cases ei:i=n
     ·subst ei; exact hc
     ·exact ha i (by omega)
    ·rw [e5,agL_congr (g:=fun i=>if i < n+1 then (hexV ((wordsL l).getD i []):Int) else 0)]
     intro i hi
     unfold updF
     dsimp only
     by_cases ei:i=n
     ·subst ei; rw [if_pos rfl,if_pos (by omega)]
     ·rw [if_neg ei]
      by_cases hin:i < n
      ·rw [if_pos hin,if_pos (by omega)]
      ·rw [if_neg hin,if_neg (by omega)]
  ·have:n=5:=by omega
   subst this
   rw [if_neg (by simp)]
   have ok:hashOk l=true:=by
    unfold hashOk
    rw [e5]
    refine List.all_eq_true.2 fun w hw=>?_
    obtain ⟨i,hi,rfl⟩:=List.getElem_of_mem hw
    have:=ha i (by omega)
    rwa [getD_in _ _ _ hi] at this
   have hf:∀ i,i < 5→(fun i=>if i < 5 then (hexV ((wordsL l).getD i []):Int) else 0) i=wi (hashW l i):=fun i hi=>by
    dsimp only
    unfold hashW
    rw [if_pos hi,if_pos ok]
    have hw:=ha i hi
    unfold wordOk at hw
    rw [Bool.and_eq_true,decide_eq_true_eq] at hw
    have hv:=hexV_lt ((wordsL l).getD i []) _ (Nat.le_refl _) (by rw [List.take_length]; exact hw.2)
    rw [List.take_length] at hv
    have hv8:16 ^ ((wordsL l).getD i []).length≤16 ^ 8:=Nat.pow_le_pow_right (by decide) (by omega)
    have p8:16 ^ 8=4294967296:=by decide
    exact wi_lit _ (by omega)
   rw [ok] at h
   exact (read5 (hashW l) _ hf (K:=fun t=>K t true)).mpr h
 ·rw [if_pos (by simp; omega)]
  exact no (by unfold hashOk; rw [show ((wordsL l).length == 5)=false by simpa using e5,Bool.false_and])
theorem ePosix (n:Int) (hn:n≤9223372036854775807) {K:Int→Bool→Prop} (h:K (if n < 0 then 0 else n - 2208988800) (decide (0≤n))):Xq1j n K:=by
 unfold Xq1j Yq1j
 by_cases e:n < 0
 ·rw [if_pos (decide_eq_true e)]
  rw [if_pos e,decide_eq_false (by omega)] at h; exact h
 ·rw [if_neg (dneg e)]
  rw [if_neg e,decide_eq_true (by omega)] at h
  unfold Xq23 Yq23
  simp only [lt]
  rw [w64_in (n:=n - 2208988800) (by omega) (by omega),decide_eq_true (show n - 2208988800 < n by omega),decide_eq_true (show (2208988800:Int) > 0 by decide),if_neg (by simp)]
  exact h
theorem eNtp (p:Int) (h0:-2208988800≤p) (h1:p≤9223372034645786000) {K:Int→Bool→Prop} (h:K (p+2208988800) true):Xq21 p K:=by
 unfold Xq21 Yq21 Xq20 Yq20
 simp only [lt]
 rw [w64_in (n:=p+2208988800) (by omega) (by omega),decide_eq_true (show p+2208988800 > p by omega),decide_eq_true (show (2208988800:Int) > 0 by decide),if_neg (by simp),if_neg (by simp),if_neg (by simp; omega)]
 exact h
theorem as5w (w:Nat→W32) {i:Nat} (h:i < 5) {F:Prop} {K:Int→Prop} (hk:K (wi (w i))):Eng.asInt .u32 ([cw (w 0),cw (w 1),cw (w 2),cw (w 3),cw (w 4)][i]?) F K:=by
 have:[cw (w 0),cw (w 1),cw (w 2),cw (w 3),cw (w 4)][i]? = some (cw (w i)):=by
  match i,h with
  | 0,_=>rfl
  | 1,_=>rfl
  | 2,_=>rfl
  | 3,_=>rfl
  | 4,_=>rfl
 rw [this]; simpa [Eng.asInt] using hk
theorem WV_setAt (ws:List (List UInt8)) (n:Nat) (h:n < ws.length) (r:List UInt8):List.set (WV ws) n (Eng.setE (List.getD (WV ws) n Eng.V.bad) 0 [.c (.string (S r))])=WV (ws.set n r):=by
 have:List.getD (WV ws) n Eng.V.bad = .c (.string (S ws[n])):=by simp [WV,List.getD,h]
 rw [this]
 show List.set (WV ws) n (.c (.string (S r)))=_
 simp [WV,List.map_set]
theorem eNtext (w:Nat→W32) {K:ByteArray→Prop} (h:K (S (ntextL w))):Xq1m (t5 w) K:=by
 unfold Xq1m Yq1m
 refine lp_at (fun j=>(((),ByteArray.mk #[],(),(j:Int),()),t5 w,agL .u8 20 (part (dW w) j),())) 20 rfl fun n hn k hk=>?_
 unfold Lq1m_0
 simp only [decide_eq_true_eq]
 by_cases e:n=20
 ·subst e
  rw [if_neg (show ¬ ((20:Nat):Int) < 20 by omega)]
  have hp:∀ i,i < 20→part (dW w) 20 i=bi (dW w i):=fun i hi=>if_pos hi
  rw [asIe 0 rfl,asIe 1 rfl,asIe 2 rfl,asIe 3 rfl,asIe 4 rfl,asIe 5 rfl,asIe 6 rfl,asIe 7 rfl,asIe 8 rfl,asIe 9 rfl,asIe 10 rfl,asIe 11 rfl,asIe 12 rfl,asIe 13 rfl,asIe 14 rfl,asIe 15 rfl,asIe 16 rfl,asIe 17 rfl,asIe 18 rfl,asIe 19 rfl]
  rw [hp 0 (by decide),hp 1 (by decide),hp 2 (by decide),hp 3 (by decide),hp 4 (by decide),hp 5 (by decide),hp 6 (by decide),hp 7 (by decide),hp 8 (by decide),hp 9 (by decide),hp 10 (by decide),hp 11 (by decide),hp 12 (by decide),hp 13 (by decide),hp 14 (by decide),hp 15 (by decide),hp 16 (by decide),hp 17 (by decide),hp 18 (by decide),hp 19 (by decide)]
  refine sHex (dW w) ?_
  have hx:(hexN (dW w) 20).length=40:=hexN_len _ _
  refine lp_at (fun j=>((ByteArray.mk #[],S (hexN (dW w) 20),(),(5:Int),(j:Int),()),WV ((List.range 5).map fun i=>if i < j then partW w i else []),())) 5 rfl fun n hn k hk=>?_
  unfold Lq1m_1
  dsimp only
  have hlen:((List.range 5).map fun i=>if i < n then partW w i else []).length=5:=by simp
  by_cases e:n=5
  ·subst e
   rw [if_neg (by simp)]
   have hm:((List.range 5).map fun i=>if i < 5 then partW w i else [])=(List.range 5).map (partW w):=List.map_congr_left fun i hi=>if_pos (List.mem_range.1 hi)
   rw [hm]
   have em:(((List.range 5).map (partW w)).map S).map (fun b=>b.data.toList)=(List.range 5).map (partW w):=by rw [List.map_map]; exact map_id_of _ fun w _=>S_data w
   refine ⟨((List.range 5).map (partW w)).map S,by simp [WV,cs,List.map_map],by simp,?_,?_⟩
   ·rw [em]
    have pl:∀ i,(partW w i).length≤8:=fun i=>by unfold partW; rw [List.length_take]; omega
    simp [List.range,List.range.loop,Lib.join]
    have:=pl 0; have:=pl 1; have:=pl 2; have:=pl 3; have:=pl 4
    omega
   ·rw [em]; exact h
  ·have hn':n < 5:=by omega
   have hk':=hk hn'
   have w1:w64 (8 * (n:Int))=((8 * n:Nat):Int):=by rw [w64_in (by omega) (by omega)]; omega
   have w2:w64 (((8 * n:Nat):Int)+8)=((8 * n+8:Nat):Int):=by rw [w64_in (by omega) (by omega)]; omega
   have w3:w64 ((n:Int)+1)=((n+1:Nat):Int):=by rw [w64_in (by omega) (by omega)]; omega
   rw [if_pos (decide_eq_true (by omega)),w1,w2,w3]
   simp only [lt]
   rw [if_pos (by rw [S_size,hx]; omega),if_pos (by omega),Int.toNat_natCast,Int.toNat_natCast,Int.toNat_natCast,WV_len,hlen,if_pos (by omega),if_pos (by omega),S_extract]
   have e1:((hexN (dW w) 20).drop (8 * n)).take (8 * n+8 - 8 * n)=partW w n:=by unfold partW; rw [show 8 * n+8 - 8 * n=8 by omega]
   have e2:List.set (WV ((List.range 5).map fun i=>if i < n then partW w i else [])) n (setE (List.getD (WV ((List.range 5).map fun i=>if i < n then partW w i else [])) n V.bad) 0 [V.c (Value.string (S (partW w n)))])=WV ((List.range 5).map fun i=>if i < n+1 then partW w i else []):=by
    rw [WV_setAt _ _ (by rw [hlen]; exact hn')]
    refine congrArg WV ?_
    refine List.ext_getElem (by simp) fun i h1 h2=>?_
    rw [List.getElem_set,List.getElem_map,List.getElem_map,List.getElem_range]
    by_cases ei:n=i
    ·subst ei; rw [if_pos rfl,if_pos (by omega)]
    ·rw [if_neg ei]
     by_cases hin:i < n
     ·rw [if_pos hin,if_pos (by omega)]
     ·rw [if_neg hin,if_neg (by omega)]
   rw [e1,e2]
   exact hk'
 ·have hn':n < 20:=by omega
  have hk':=hk hn'
  rw [← part_next] at hk'
  have e4:w64 (Int.tdiv (n:Int) 4)=((n / 4:Nat):Int):=by
   rw [Int.tdiv_eq_ediv_of_nonneg (by omega),w64_in (by omega) (by omega)]; omega
  have e5:w64 (24 - w64 (Int.tmod (n:Int) 4 * 8))=((24 - 8 * (n % 4):Nat):Int):=by
   rw [Int.tmod_eq_emod_of_nonneg (by omega),w64_in (n:=(n:Int) % 4 * 8) (by omega) (by omega),w64_in (by omega) (by omega)]; omega
  have e1:w64 ((n:Int)+1)=((n+1:Nat):Int):=by rw [w64_in (by omega) (by omega)]; omega
  rw [e4,e5,e1]
  simp only [Int.toNat_natCast,Nat.mul_one,Nat.zero_add,lt]
  refine ifT (by omega) (ifT (by omega) (as5w w (by omega) (ifF (by omega) (ifT (by omega) (ifT (Nat.zero_lt_one) (ifT (by show n+1≤20; omega) ?_))))))
  rw [show min (24 - 8 * (n % 4)) 32=24 - 8 * (n % 4) by omega]
  have e8:=wu8_shr (w (n / 4)).toNat (24 - 8 * (n % 4)) (Nat.lt_trans (wi_lt _) (by omega))
  rw [show Int.fdiv (wi (w (n / 4))) (2 ^ (24 - 8 * (n % 4)))=Int.fdiv ((w (n / 4)).toNat:Int) (2 ^ (24 - 8 * (n % 4))) from rfl,e8]
  refine (congrArg k ?_).mp hk'
  rw [← agL_set (by omega)]
  rfl
end Go.Proofs.YtdjldmolhkkipaaGreatDoor
end
section
set_option linter.unusedVariables false
set_option linter.unusedSimpArgs false
namespace Go.Proofs.YtdjldmolhkkipaaGreatDoor
open Go Go.Proofs.YtdjldmolhkkipaaGreatDoor.Eng Go.Proofs.YtdjldmolhkkipaaGreatDoor.Pl
set_option maxRecDepth 100000
set_option maxHeartbeats 2000000
def NV (ns:List Int):List V:=ns.map fun n=>.c (.int .i64 n)
theorem NV_len (ns:List Int):(NV ns).length=ns.length:=by simp [NV]
theorem asNV {ns:List Int} {i:Nat} (h:i < ns.length) {F:Prop} {K:Int→Prop} (hk:K (ns.getD i 0)):Eng.asInt .i64 (getC (NV ns) i 0) F K:=by
 have:getC (NV ns) i 0=some (.c (.int .i64 (ns.getD i 0))):=by simp [getC,NV,V.cells,h,List.getD]
 rw [this]; simpa [Eng.asInt] using hk
def rowE (r:LW):V:=.agg [.c (.string (S r.kd)),.sl 1 false (WV r.ws),.sl 1 false (NV r.ns),.c (.bool r.ok)]
def RWV (R:List LW):List V:=R.map rowE
theorem RWV_len (R:List LW):(RWV R).length=R.length:=by simp [RWV]
theorem RWV_app (R:List LW) (r:LW):RWV R++[rowE r]=RWV (R++[r]):=by simp [RWV]
theorem asR0 {R:List LW} {i:Nat} (h:i < R.length) {F:Prop} {K:ByteArray→Prop} (hk:K (S (R.getD i lw0).kd)):Eng.asStr (getC (RWV R) i 0) F K:=by
 have:getC (RWV R) i 0=some (.c (.string (S (R.getD i lw0).kd))):=by simp [getC,RWV,rowE,V.cells,h,List.getD]
 rw [this]; simpa [Eng.asStr] using hk
theorem asR1 {R:List LW} {i:Nat} (h:i < R.length) {F:Prop} {K:Bool→List V→Prop} (hk:K false (WV (R.getD i lw0).ws)):Eng.asSl 1 (getC (RWV R) i 1) F K:=by
 have:getC (RWV R) i 1=some (.sl 1 false (WV (R.getD i lw0).ws)):=by simp [getC,RWV,rowE,V.cells,h,List.getD]
 rw [this]; simpa [Eng.asSl] using hk
theorem asR2 {R:List LW} {i:Nat} (h:i < R.length) {F:Prop} {K:Bool→List V→Prop} (hk:K false (NV (R.getD i lw0).ns)):Eng.asSl 1 (getC (RWV R) i 2) F K:=by
 have:getC (RWV R) i 2=some (.sl 1 false (NV (R.getD i lw0).ns)):=by simp [getC,RWV,rowE,V.cells,h,List.getD]
 rw [this]; simpa [Eng.asSl] using hk
theorem asR3 {R:List LW} {i:Nat} (h:i < R.length) {F:Prop} {K:Bool→Prop} (hk:K (R.getD i lw0).ok):Eng.asBool (getC (RWV R) i 3) F K:=by
 have:getC (RWV R) i 3=some (.c (.bool (R.getD i lw0).ok)):=by simp [getC,RWV,rowE,V.cells,h,List.getD]
 rw [this]; simpa [Eng.asBool] using hk
theorem eroom (n k:Nat) (hn:n≤100000000) (hk:k≤80):roomOk n k=true:=by
 unfold roomOk
 have:(n+1000) * k≤100001000 * 80:=Nat.mul_le_mul (by omega) hk
 simp; omega
theorem eNumbers (kd s:List UInt8) (many:Nat) (hs:s.length≤1000000) {K:ByteArray×Unit×Unit×Bool×Unit→List V→Bool→Bool→List V→Bool→Bool→Prop}
  (h:∀ o f,K (S kd,(),(),(numsR kd s many).ok,()) (WV (numsR kd s many).ws) o f (NV (numsR kd s many).ns) true false):Xq0t (S kd) (S s) (many:Int) K:=by
 unfold Xq0t Yq0t
 refine kWords s hs ?_
 rw [WV_len]
 have hlw:=words_len s
 refine lp_ind (fun x=>(wordsL s).length - x.1.2.2.2.2.2.1.toNat) (fun x=>∃ j:Nat,j≤(wordsL s).length ∧
  x=(((many:Int),(),(),(),(((wordsL s).length:Nat):Int),(j:Int),()),(ByteArray.mk #[],(),(),false,()),(S kd,(),(),((wordsL s).take j).all (fun w=>(numL w).2),()),(WV (wordsL s),true,false),NV (((wordsL s).take j).map fun w=>(numL w).1),())) ?_ ⟨0,Nat.zero_le _,rfl⟩
 rintro x ⟨j,hj,rfl⟩ k hk
 unfold Lq0t_0
 dsimp only
 rw [Int.toNat_natCast,WV_len]
 by_cases e:j < (wordsL s).length
 ·rw [if_pos (decide_eq_true (by omega)),if_pos (by omega)]
  have hwl:((wordsL s).getD j []).length≤s.length:=by rw [getD_in _ _ _ e]; exact words_mem_len s _ (List.getElem_mem _)
  refine asWd e (kNumber _ (by omega) ?_)
  rw [if_pos (eroom _ _ (by rw [NV_len,List.length_map,List.length_take,List.length_singleton]; omega) (by decide))]
  have w1:w64 ((j:Int)+1)=((j+1:Nat):Int):=by rw [w64_in (by omega) (by omega)]; omega
  have e1:(wordsL s).take (j+1)=(wordsL s).take j++[(wordsL s).getD j []]:=by rw [getD_in _ _ _ e]; exact List.take_succ_eq_append_getElem e
  have e2:NV (((wordsL s).take j).map fun w=>(numL w).1)++[V.c (.int .i64 (numL ((wordsL s).getD j [])).1)]=NV (((wordsL s).take (j+1)).map fun w=>(numL w).1):=by rw [e1]; simp [NV]
  have e3:((wordsL s).take (j+1)).all (fun w=>(numL w).2)=(((wordsL s).take j).all (fun w=>(numL w).2) && (numL ((wordsL s).getD j [])).2):=by rw [e1,List.all_append]; simp
  rw [w1,e2]
  have mu:(wordsL s).length - Int.toNat ((j+1:Nat):Int) < (wordsL s).length - j:=by omega
  cases ha:((wordsL s).take j).all (fun w=>(numL w).2)
  ·rw [if_neg (by simp)]
   refine hk _ ⟨j+1,e,?_⟩ mu
   rw [e3,ha]; rfl
  ·rw [if_pos rfl]
   refine hk _ ⟨j+1,e,?_⟩ mu
   rw [e3,ha]; rfl
 ·have:j=(wordsL s).length:=by omega
  subst this
  rw [if_neg (dneg (by omega)),List.take_length]
  unfold numsR at h
  have ei:((((wordsL s).length:Nat):Int) == (many:Int))=((wordsL s).length == many):=by
   by_cases q:(wordsL s).length=many
   ·rw [q]; simp
   ·rw [show ((wordsL s).length == many)=false by simpa using q]; simp; omega
  rw [ei]
  cases ha:(wordsL s).all (fun w=>(numL w).2)
  ·rw [if_neg (by simp)]
   rw [ha,if_neg (by simp)] at h
   exact h _ _
  ·rw [if_pos rfl]
   rw [ha] at h
   by_cases q:(wordsL s).length=many
   ·rw [if_neg (by simp [q])]
    rw [if_pos ⟨rfl,q⟩] at h
    exact h _ _
   ·rw [if_pos (by simpa using q)]
    rw [if_neg (fun z=>q z.2)] at h
    exact h _ _
theorem eRead (s:List UInt8) (hs:s.length≤1000000) {K:ByteArray×Unit×Unit×Bool×Unit→List V→Bool→Bool→List V→Bool→Bool→Prop}
  (h:∀ o f o' f',K (S (readL s).kd,(),(),(readL s).ok,()) (WV (readL s).ws) o f (NV (readL s).ns) o' f'):Xq1g (S s) K:=by
 unfold Xq1g Yq1g
 refine kWords s hs ?_
 rw [WV_len]
 unfold readL at h
 by_cases e0:wordsL s=[]
 ·rw [if_pos (by simp [e0])]
  rw [if_pos e0] at h
  exact h _ _ _ _
 have hpos:0 < (wordsL s).length:=List.length_pos_iff.2 e0
 rw [if_neg (by simpa using e0)]
 rw [if_neg e0] at h
 have ek:ByteArray.extract (S s) 0 (Int.toNat (if (((S s).size:Nat):Int) < 2 then (((S s).size:Nat):Int) else 2))=S (s.take 2):=by
  rw [S_extract,List.drop_zero]
  rw [S_size]
  by_cases q:(s.length:Int) < 2
  ·rw [if_pos q]
   refine congrArg S ?_
   rw [List.take_of_length_le (by omega),List.take_of_length_le (by omega)]
  ·rw [if_neg q]; rfl
 have ed:ByteArray.extract (S s) 2 (Int.toNat (((S s).size:Nat):Int))=S (s.drop 2):=by
  rw [S_extract,S_size,Int.toNat_natCast,List.take_of_length_le (by rw [List.length_drop]; omega)]
 have hdl:(s.drop 2).length≤1000000:=by rw [List.length_drop]; omega
 have two:s.take 2=kStamp∨s.take 2=kExp∨s.take 2=kHash→2≤s.length:=fun q=>by
  have:(s.take 2).length=2:=by rcases q with q | q | q <;> rw [q] <;> rfl
  rw [List.length_take] at this; omega
 rw [if_pos (by rw [S_size]; split <;> simp at * <;> omega),if_pos (by rw [S_size]; split <;> simp at * <;> omega)]
 simp only [ek,ed,kS_eq _ [35,36],kS_eq _ [35,64],kS_eq _ [35,104]]
 have rest:¬ (s.take 2=kStamp∨s.take 2=kExp)→(if (s.take 2 == [35,104])=true then
   (if 0≤(((S s).size:Nat):Int)∧(((S s).size:Nat):Int)≤(((S s).size:Nat):Int) then (if 0≤(2:Int)∧(2:Int)≤(((S s).size:Nat):Int) then Xq1v (S (s.drop 2)) (fun r11 r12=>K (S (s.take 2),(),(),r12,()) [] true true [] true true) else False) else False)
   else (if 0≤(0:Int)∧(0:Int) < (((wordsL s).length:Nat):Int) then Eng.asStr (getC (WV (wordsL s)) 0 0) False fun t13=>Xq0b t13 (S [35]) (fun r14=>if r14=true then K (S [35],(),(),true,()) [] true true [] true true else
    Xq0x (S s) (S [35]) (fun r15 r16 r17=>Xq0t (S []) r15 2 (fun r18 r19 r20 r21 r22 r23 r24=>K (r18.1,(),(),r18.2.2.2.1,()) r19 r20 r21 r22 r23 r24))) else False)):=fun q=>by
  rw [if_neg q] at h
  by_cases q3:s.take 2=kHash
  ·have hs2:=two (.inr (.inr q3))
   rw [if_pos (by rw [q3]; rfl),if_pos (by omega),if_pos (by rw [S_size]; omega)]
   rw [if_pos q3] at h
   refine eHash _ hdl ?_
   rw [q3]
   exact h _ _ _ _
  ·rw [if_neg (by simpa using q3),if_pos (by omega)]
   rw [if_neg q3] at h
   refine asWd hpos (kPre _ _ ?_)
   cases hp:preB ((wordsL s).getD 0 []) [35]
   ·rw [if_neg (by simp)]
    rw [show kRem=[35] from rfl,hp,if_neg (by simp)] at h
    refine kCut s (by omega) fun b o=>eNumbers [] (bareL s) 2 (Nat.le_trans (bare_len' s) hs) fun o f=>?_
    exact h _ _ _ _
   ·rw [if_pos rfl]
    rw [show kRem=[35] from rfl,hp,if_pos rfl] at h
    exact h _ _ _ _
 by_cases q1:s.take 2=kStamp
 ·have hs2:=two (.inl q1)
  rw [if_pos (by rw [q1]; rfl),if_pos (by rw [q1]; rfl),if_pos (by omega),if_pos (by rw [S_size]; omega)]
  rw [if_pos (.inl q1)] at h
  exact eNumbers (s.take 2) (s.drop 2) 1 hdl fun o f=>h _ _ _ _
 ·rw [if_neg (by simpa using q1)]
  by_cases q2:s.take 2=kExp
  ·have hs2:=two (.inr (.inl q2))
   rw [if_pos (by rw [q2]; rfl),if_pos (by omega),if_pos (by rw [S_size]; omega)]
   rw [if_pos (.inr q2)] at h
   exact eNumbers (s.take 2) (s.drop 2) 1 hdl fun o f=>h _ _ _ _
  ·rw [if_neg (by simpa using q2)]
   exact rest (fun z=>z.elim q1 q2)
theorem eRows (s:List UInt8) (hs:s.length≤1000000) {K:List V→Bool→Bool→Prop} (h:K (RWV (rowsL s)) true false):Xq18 (S s) K:=by
 unfold Xq18 Yq18
 refine kLines s (by omega) ?_
 rw [WV_len]
 have hll:=lines_len s
 refine lp_ind (fun x=>(linesL s).length - x.1.2.2.2.1.toNat) (fun x=>∃ j:Nat,j≤(linesL s).length∧x=(((),(),(((linesL s).length:Nat):Int),(j:Int),()),(WV (linesL s),true,false),RWV (((linesL s).take j).map readL),())) ?_ ⟨0,Nat.zero_le _,rfl⟩
 rintro x ⟨j,hj,rfl⟩ k hk
 unfold Lq18_0
 dsimp only
 rw [Int.toNat_natCast,WV_len]
 by_cases e:j < (linesL s).length
 ·rw [if_pos (decide_eq_true (by omega)),if_pos (by omega)]
  have hwl:((linesL s).getD j []).length≤s.length:=by rw [getD_in _ _ _ e]; exact lines_mem_len s _ (List.getElem_mem _)
  refine asWd e (eRead _ (by omega) fun o f o' f'=>?_)
  rw [if_pos (eroom _ _ (by rw [RWV_len,List.length_map,List.length_take,List.length_singleton]; omega) (by decide))]
  have w1:w64 ((j:Int)+1)=((j+1:Nat):Int):=by rw [w64_in (by omega) (by omega)]; omega
  have e1:(linesL s).take (j+1)=(linesL s).take j++[(linesL s).getD j []]:=by rw [getD_in _ _ _ e]; exact List.take_succ_eq_append_getElem e
  have e2:RWV (((linesL s).take j).map readL)++[rowE (readL ((linesL s).getD j []))]=RWV (((linesL s).take (j+1)).map readL):=by rw [e1,RWV_app,List.map_append]; rfl
  simp only [lt]
  rw [w1]
  refine hk _ ⟨j+1,e,?_⟩ (by show (linesL s).length - Int.toNat ((j+1:Nat):Int) < (linesL s).length - Int.toNat (j:Int); omega)
  rw [← e2]; rfl
 ·have:j=(linesL s).length:=by omega
  subst this
  rw [if_neg (dneg (by omega)),List.take_length]
  exact h
end Go.Proofs.YtdjldmolhkkipaaGreatDoor
end
section
set_option linter.unusedVariables false
set_option linter.unusedSimpArgs false
namespace Go.Proofs.YtdjldmolhkkipaaGreatDoor
open Go Go.Proofs.YtdjldmolhkkipaaGreatDoor.Eng Go.Proofs.YtdjldmolhkkipaaGreatDoor.Pl
set_option maxRecDepth 100000
set_option maxHeartbeats 2000000
theorem join0:∀ ws:List (List UInt8),Lib.join ws []=ws.flatten
 | []=>by simp [Lib.join]
 | [a]=>by simp [Lib.join]
 | a :: b :: r=>by
  have ih:=join0 (b :: r)
  simp only [Lib.join] at ih ⊢
  simp at ih ⊢
  first | exact ih | (rw [ih]) | skip
theorem eJoin0 (ws:List (List UInt8)) (h1:ws.length≤1000000) (h2:ws.flatten.length≤100000000) {K:ByteArray→Prop} (h:K (S ws.flatten)):Xjoin (WV ws) (ByteArray.mk #[]) K:=by
 have e:(ws.map S).map (fun b=>b.data.toList)=ws:=by rw [List.map_map]; exact map_id_of ws fun w _=>S_data w
 refine ⟨ws.map S,by simp [WV,cs,List.map_map],by simpa using h1,?_,?_⟩
 ·rw [e]; exact Nat.le_trans (Nat.le_of_eq (congrArg List.length (join0 ws))) h2
 ·rw [e]; exact (congrArg (fun l=>K ⟨l.toArray⟩) (join0 ws)).mpr h
def PVs (ps:List (List UInt8)):List V:=ps.map fun p=>.sl 1 false (BV p)
theorem PVs_app (ps:List (List UInt8)) (w:List UInt8):PVs ps++[.sl 1 false (bytesV (S w))]=PVs (ps++[w]):=by rw [bytesV_S]; simp [PVs,BV,B8]
theorem PVs_len (ps:List (List UInt8)):(PVs ps).length=ps.length:=by simp [PVs]
theorem parts_of (ps:List (List UInt8)):Parts (PVs ps) ps:=⟨PVs_len ps,fun i h=>⟨1,false,by simp [PVs,h],.inl rfl⟩⟩
theorem eset20z (f z:Nat→Int):List.set (agL .u8 20 z) 0 (setE (List.getD (agL .u8 20 z) 0 V.bad) 0 [V.c (.int .u8 (f 0)),V.c (.int .u8 (f 1)),V.c (.int .u8 (f 2)),V.c (.int .u8 (f 3)),V.c (.int .u8 (f 4)),V.c (.int .u8 (f 5)),V.c (.int .u8 (f 6)),V.c (.int .u8 (f 7)),V.c (.int .u8 (f 8)),V.c (.int .u8 (f 9)),V.c (.int .u8 (f 10)),V.c (.int .u8 (f 11)),V.c (.int .u8 (f 12)),V.c (.int .u8 (f 13)),V.c (.int .u8 (f 14)),V.c (.int .u8 (f 15)),V.c (.int .u8 (f 16)),V.c (.int .u8 (f 17)),V.c (.int .u8 (f 18)),V.c (.int .u8 (f 19))])=agL .u8 20 f:=by kernel_rfl
theorem eHashed (R:List LW) (hR:∀ r∈R,r.ws.length≤1000000∧r.ws.flatten.length≤100000000) (hn:R.length≤100000) (hl:(hashedL R).length≤100000) {K:T20→Prop} (h:K (t20 (digest (hashedL R)))):Xq0w (RWV R) K:=by
 unfold Xq0w Yq0w
 refine lp_ind (fun x=>3 - x.1.2.2.2.2.2.1.toNat) (fun x=>∃ (i:Nat) (ps:List (List UInt8)),i≤3∧ps.length≤i * R.length∧ps.flatten=((kindsL.take i).map fun kd=>hashedK kd R).flatten ∧
  x=((RWV R,(),(),(),(3:Int),(i:Int),()),agL .u8 20 (fun _=>0),WV kindsL,PVs ps,())) ?_ ⟨0,[],by omega,by simp,rfl,rfl⟩
 rintro x ⟨i,ps,hi,hpl,hpf,rfl⟩ k hk
 unfold Lq0w_0
 dsimp only
 rw [WV_len,Int.toNat_natCast]
 have kl:kindsL.length=3:=rfl
 by_cases e:i < 3
 ·rw [if_pos (decide_eq_true (by omega)),if_pos (by rw [kl]; omega)]
  refine asWd (by rw [kl]; exact e) ?_
  generalize hkd:kindsL.getD i []=kd
  rw [RWV_len]
  refine lp_ind (fun x=>R.length - x.1.2.2.2.2.2.2.2.2.2.1.toNat) (fun x=>∃ (j:Nat) (qs:List (List UInt8)),j≤R.length∧qs.length≤i * R.length+j∧qs.flatten=ps.flatten++hashedK kd (R.take j) ∧
   x=((RWV R,(),(),S kd,(),(3:Int),(i:Int),RWV R,((R.length:Nat):Int),(j:Int),()),agL .u8 20 (fun _=>0),WV kindsL,PVs qs,())) ?_ ⟨0,ps,Nat.zero_le _,by omega,by simp [hashedK],rfl⟩
  rintro x ⟨j,qs,hj,hql,hqf,rfl⟩ k2 hk2
  unfold Lq0w_1
  dsimp only
  rw [RWV_len,Int.toNat_natCast]
  have hi3:i * R.length≤300000:=by
   have:i * R.length≤3 * R.length:=Nat.mul_le_mul_right _ (by omega)
   omega
  by_cases ej:j < R.length
  ·rw [if_pos (decide_eq_true (by omega)),if_pos (by omega)]
   refine asR0 ej (asR1 ej (asR2 ej (asR3 ej ?_)))
   have w1:w64 ((j:Int)+1)=((j+1:Nat):Int):=by rw [w64_in (by omega) (by omega)]; omega
   have hr:=hR (R.getD j lw0) (by rw [getD_in _ _ _ ej]; exact List.getElem_mem _)
   have et:R.take (j+1)=R.take j++[R.getD j lw0]:=by rw [getD_in _ _ _ ej]; exact List.take_succ_eq_append_getElem ej
   have eh:hashedK kd (R.take (j+1))=hashedK kd (R.take j)++(if (R.getD j lw0).kd=kd then (R.getD j lw0).ws.flatten else []):=by rw [et,hashedK_app]; simp [hashedK]
   have mu:R.length - Int.toNat ((j+1:Nat):Int) < R.length - Int.toNat (j:Int):=by omega
   rw [kS_eq,w1]
   by_cases ek:(R.getD j lw0).kd=kd
   ·rw [if_pos (by simpa using ek)]
    rw [if_pos ek] at eh
    refine eJoin0 _ hr.1 hr.2 ?_
    rw [if_pos (eroom _ _ (by rw [PVs_len,List.length_singleton]; omega) (by decide)),PVs_app]
    exact hk2 _ ⟨j+1,qs++[(R.getD j lw0).ws.flatten],ej,by simp; omega,by rw [List.flatten_append,hqf,eh]; simp,rfl⟩ mu
   ·rw [if_neg (by simpa using ek)]
    rw [if_neg ek,List.append_nil] at eh
    exact hk2 _ ⟨j+1,qs,ej,by omega,by rw [hqf,eh],rfl⟩ mu
  ·have:j=R.length:=by omega
   subst this
   rw [if_neg (dneg (by omega))]
   rw [List.take_length] at hqf
   have w1:w64 ((i:Int)+1)=((i+1:Nat):Int):=by rw [w64_in (by omega) (by omega)]; omega
   rw [w1]
   refine hk _ ⟨i+1,qs,e,by rw [Nat.add_mul]; omega,?_,rfl⟩ (by show 3 - Int.toNat ((i+1:Nat):Int) < 3 - Int.toNat (i:Int); omega)
   have et:kindsL.take (i+1)=kindsL.take i++[kd]:=by rw [← hkd,getD_in _ _ _ (by rw [kl]; exact e)]; exact List.take_succ_eq_append_getElem (by rw [kl]; exact e)
   rw [hqf,hpf,et,List.map_append,List.flatten_append]
   simp
 ·have:i=3:=by omega
  subst this
  rw [if_neg (by simp)]
  have ef:ps.flatten=hashedL R:=by rw [hpf]; simp [kindsL,hashedL]
  refine sSum (PVs ps) ps (parts_of ps) (by omega) (by rw [ef]; exact hl) ?_
  rw [agL_len,if_pos (by decide),ef]
  have:=eset20z (fun i=>bi (digest (hashedL R) i)) (fun _=>0)
  simp only [lt]
  rw [this]
  rw [asIe 0 rfl,asIe 1 rfl,asIe 2 rfl,asIe 3 rfl,asIe 4 rfl,asIe 5 rfl,asIe 6 rfl,asIe 7 rfl,asIe 8 rfl,asIe 9 rfl,asIe 10 rfl,asIe 11 rfl,asIe 12 rfl,asIe 13 rfl,asIe 14 rfl,asIe 15 rfl,asIe 16 rfl,asIe 17 rfl,asIe 18 rfl,asIe 19 rfl]
  exact h
theorem rows_bd (s:List UInt8) (hs:s.length≤30000):(∀ r∈rowsL s,r.ws.length≤1000000∧r.ws.flatten.length≤100000000)∧(rowsL s).length≤100000∧(hashedL (rowsL s)).length≤100000:=by
 refine ⟨fun r hr=>?_,?_,?_⟩
 ·obtain ⟨x,hx,rfl⟩:=List.mem_map.1 hr
  have h1:=row_len x
  have h2:=lines_mem_len s x hx
  omega
 ·rw [rows_len]; have:=lines_len s; omega
 ·have:=hashed_len s; omega
theorem eHashS (s:List UInt8) (hs:s.length≤30000) {K:T20→Prop} (h:K (t20 (hashL s))):Xq19 (S s) K:=by
 unfold Xq19 Yq19
 obtain ⟨b1,b2,b3⟩:=rows_bd s hs
 exact eRows s (by omega) (eHashed _ b1 b2 b3 h)
theorem bbeq (u:ByteArray):(u == u)=true:=(MapKept.bytes_beq u u).2 rfl
def mval (m:List (Value×V)) (k:List UInt8) (n:Int):Prop:=(mpGet (S k) m=some none∧n=0)∨mpGet (S k) m=some (some (.c (.int .i64 n)))
theorem asMv {m:List (Value×V)} {k:List UInt8} {n:Int} (hm:mval m k n) {K:Int→Bool→Prop} (h:∀ b,K n b):Eng.asMpI .i64 (mpGet (S k) m) False K:=by
 rcases hm with ⟨h1,h2⟩ | h1
 ·rw [h1]; subst h2; exact h false
 ·rw [h1]; exact h true
theorem mval_some {m:List (Value×V)} {k:List UInt8} {n:Int} (hm:mval m k n):(mpGet (S k) m).isSome=true:=by
 rcases hm with ⟨h1,_⟩ | h1 <;> rw [h1] <;> rfl
theorem mput_same (k:List UInt8) (x:Int):∀ (m:List (Value×V)),(mpGet (S k) m).isSome=true→mval (mpPut (S k) (.c (.int .i64 x)) m) k x
 | [],_=>by right; simp [mpPut,mpGet,bbeq]
 |(.string u,v) :: r,h=>by
  right
  rw [mpPut]
  cases e:(S k == u)
  ·simp only [cond_false]
   rw [mpGet,e] at h ⊢
   simp only [cond_false] at h ⊢
   rcases mput_same k x r h with ⟨h1,_⟩ | h1
   ·exact absurd h1 (by
     have:∀ m:List (Value×V),mpGet (S k) (mpPut (S k) (.c (.int .i64 x)) m)≠some none:=fun m=>by
      induction m with
      | nil=>simp [mpPut,mpGet,bbeq]
      | cons p m ih =>
       obtain ⟨a,b⟩:=p
       cases a with
       | string t =>
        rw [mpPut]
        cases e2:(S k == t)
        ·simp only [cond_false]; rw [mpGet,e2]; exact ih
        ·simp only [cond_true]; rw [mpGet,e2]; simp
       | _=>simp [mpPut,mpGet]
     exact this r)
   ·exact h1
  ·simp only [cond_true]
   rw [mpGet,e]; rfl
theorem mput_other (k k':List UInt8) (hne:k'≠k) (v:V) (n:Int) (m:List (Value×V)) (hm:mval m k' n):mval (mpPut (S k) v m) k' n:=by
 have hk:∀ a b:List UInt8,a≠b→(S a == S b)=false:=fun a b h=>by
  cases e:(S a == S b)
  ·rfl
  ·exfalso; apply h
   have:=(MapKept.bytes_beq _ _).1 e
   have:=congrArg (fun b=>b.data.toList) this
   simpa [S_data] using this
 have:∀ m:List (Value×V),(mpGet (S k') m).isSome=true→mpGet (S k') (mpPut (S k) v m)=mpGet (S k') m:=fun m=>by
  induction m with
  | nil =>
   intro _
   simp only [mpPut,mpGet]
   rw [hk k' k hne]; rfl
  | cons p m ih =>
   obtain ⟨a,b⟩:=p
   cases a with
   | string t =>
    intro h
    rw [mpPut]
    rw [mpGet] at h ⊢
    cases e1:(S k == t)
    ·simp only [cond_false]
     rw [mpGet]
     cases e2:(S k' == t)
     ·rw [e2] at h
      simp only [cond_false] at h ⊢
      exact ih h
     ·rfl
    ·simp only [cond_true]
     have et:=(MapKept.bytes_beq _ _).1 e1
     subst et
     rw [mpGet,hk k' k hne]; rfl
   | _=>intro h; simp [mpGet] at h
 have hs:=mval_some hm
 unfold mval at hm ⊢
 rw [this m hs]; exact hm
structure Mp (m:List (Value×V)) (s:LS):Prop where
 h1:mval m kStamp s.a1
 h2:mval m kExp s.a2
 h3:mval m kHash s.a3
theorem eData (s:LS) (n o:Int) (hn:0≤n∧n≤9223372036854775807) (ho:0≤o∧o≤9223372036854775807) (hf:0≤s.off∧s.off≤9223372036854775807) (hl:s.ls.length≤100000) (m:List (Value×V)) {K}
  (h:∀ w f,K (dataL s n o).2 false 0 (dataL s n o).1.off (dataL s n o).1.bg (TLV (dataL s n o).1.ls) w f m):Xq0k n o (TLV s.ls) false 0 s.off s.bg m K:=by
 unfold Xq0k Yq0k
 refine ePosix n hn.2 ?_
 rw [if_neg (by omega)]
 refine sdiv (n - 2208988800) 86400 (by omega) (by omega) (by omega) (by omega) ?_
 have wd:w64 ((n - 2208988800) / 86400 - 1)=(n - 2208988800) / 86400 - 1:=w64_in (by omega) (by omega)
 have ws:w64 (o - s.off)=o - s.off:=w64_in (by omega) (by omega)
 rw [wd,ws]
 unfold dataL at h
 have add:s.bg=true→(n - 2208988800) % 86400=0→(o - s.off=1∨o - s.off=-1)→Xq1p (TLV s.ls,false,0,()) ((n - 2208988800) / 86400 - 1,o - s.off,false,()) (fun r28 r29 r30 r31 r32=>K r29 r28.2.1 r28.2.2.1 o s.bg r30 r31 r32 m):=fun b z st=>by
  rw [if_neg (by rw [b]; simp),if_neg (by omega),if_neg (by omega)] at h
  refine kAdd ⟨s.ls,false,0⟩ ((n - 2208988800) / 86400 - 1,o - s.off,false) hl fun w f=>?_
  rw [b]; exact h w f
 cases b:s.bg
 ·rw [b,if_pos rfl] at h
  rw [if_pos (by simp)]
  by_cases e1:n - 2208988800=63072000
  ·rw [if_neg (by simp [e1])]
   by_cases e2:o=10
   ·rw [if_neg (by simp [e2]),if_pos (by simp)]
    rw [if_neg (by omega)] at h
    exact h _ _
   ·rw [if_pos (by simpa using e2)]
    rw [if_pos (.inr e2),b] at h
    exact h _ _
  ·rw [if_pos (by simpa using e1)]
   rw [if_pos (.inl e1),b] at h
   exact h _ _
 ·rw [if_neg (by simp),if_neg (by simp)]
  rw [b] at add
  by_cases z:(n - 2208988800) % 86400=0
  ·rw [if_neg (by simpa using z)]
   by_cases s1:o - s.off=1
   ·rw [if_neg (by simpa using s1)]
    exact add rfl z (.inl s1)
   ·rw [if_pos (by simpa using s1)]
    by_cases s2:o - s.off=-1
    ·rw [if_neg (by simpa using s2)]
     exact add rfl z (.inr s2)
    ·rw [if_pos (by simpa using s2)]
     rw [b,if_neg (by simp),if_neg (by omega),if_pos ⟨s1,s2⟩] at h
     have:=h false true
     rwa [b] at this
  ·rw [if_pos (by simpa using z)]
   rw [b,if_neg (by simp),if_pos z] at h
   have:=h false true
   rwa [b] at this
end Go.Proofs.YtdjldmolhkkipaaGreatDoor
end
section
set_option linter.unusedVariables false
set_option linter.unusedSimpArgs false
namespace Go.Proofs.YtdjldmolhkkipaaGreatDoor
open Go Go.Proofs.YtdjldmolhkkipaaGreatDoor.Eng Go.Proofs.YtdjldmolhkkipaaGreatDoor.Pl
set_option maxRecDepth 100000
set_option maxHeartbeats 2000000
theorem eLine (s:LS) (no:Nat) (r:LW) (m:List (Value×V)) (hm:Mp m s) (hr:r.ok=true→r.kd=[]→r.ns.length=2∧∀ i,i < 2→0≤r.ns.getD i 0∧r.ns.getD i 0≤9223372036854775807)
  (hf:0≤s.off∧s.off≤9223372036854775807) (hl:s.ls.length≤100000) (ws:List V) {K}
  (h:∀ w f m',Mp m' (lineL s no r).1→K (lineL s no r).2 false 0 (lineL s no r).1.off (lineL s no r).1.bg (TLV (lineL s no r).1.ls) w f m'):Xq0j (no:Int) (S r.kd,ws,NV r.ns,r.ok,()) (TLV s.ls) false 0 s.off s.bg m K:=by
 unfold Xq0j Yq0j
 dsimp only
 unfold lineL at h
 cases ok:r.ok
 ·rw [if_pos (by simp)]
  rw [if_pos ok] at h
  exact h _ _ _ hm
 rw [if_neg (by simp)]
 rw [if_neg (by rw [ok]; simp)] at h
 rw [kS_eq _ [35,36],kS_eq _ [35,64],kS_eq _ [35,104],kS_eq _ []]
 by_cases q:r.kd=kStamp
 ·rw [if_pos (by rw [q]; rfl),if_pos (by rw [q]; rfl)]
  rw [if_pos q] at h
  have hv:=hm.h1
  rw [← q] at hv
  refine asMv hv fun b=>?_
  by_cases p:s.a1 > 0
  ·rw [if_pos (decide_eq_true p)]
   rw [if_pos p] at h
   exact h _ _ _ hm
  ·rw [if_neg (dneg p),if_pos (mval_some hv)]
   rw [if_neg p] at h
   refine h _ _ _ ⟨?_,?_,?_⟩
   ·rw [q]; exact mput_same _ _ _ (by rw [← q]; exact mval_some hv)
   ·rw [q]; exact mput_other _ _ (by decide) _ _ _ hm.h2
   ·rw [q]; exact mput_other _ _ (by decide) _ _ _ hm.h3
 rw [if_neg (by simpa using q)]
 rw [if_neg q] at h
 clear q
 by_cases q:r.kd=kExp
 ·rw [if_pos (by rw [q]; rfl),if_pos (by rw [q]; rfl)]
  rw [if_pos q] at h
  have hv:=hm.h2
  rw [← q] at hv
  refine asMv hv fun b=>?_
  by_cases p:s.a2 > 0
  ·rw [if_pos (decide_eq_true p)]
   rw [if_pos p] at h
   exact h _ _ _ hm
  ·rw [if_neg (dneg p),if_pos (mval_some hv)]
   rw [if_neg p] at h
   refine h _ _ _ ⟨?_,?_,?_⟩
   ·rw [q]; exact mput_other _ _ (by decide) _ _ _ hm.h1
   ·rw [q]; exact mput_same _ _ _ (by rw [← q]; exact mval_some hv)
   ·rw [q]; exact mput_other _ _ (by decide) _ _ _ hm.h3
 rw [if_neg (by simpa using q)]
 rw [if_neg q] at h
 clear q
 by_cases q:r.kd=kHash
 ·rw [if_pos (by rw [q]; rfl)]
  rw [if_pos q] at h
  have hv:=hm.h3
  rw [← q] at hv
  refine asMv hv fun b=>?_
  by_cases p:s.a3 > 0
  ·rw [if_pos (decide_eq_true p)]
   rw [if_pos p] at h
   exact h _ _ _ hm
  ·rw [if_neg (dneg p),if_pos (mval_some hv)]
   rw [if_neg p] at h
   refine h _ _ _ ⟨?_,?_,?_⟩
   ·rw [q]; exact mput_other _ _ (by decide) _ _ _ hm.h1
   ·rw [q]; exact mput_other _ _ (by decide) _ _ _ hm.h2
   ·rw [q]; exact mput_same _ _ _ (by rw [← q]; exact mval_some hv)
 rw [if_neg (by simpa using q)]
 rw [if_neg q] at h
 clear q
 by_cases q:r.kd=[]
 ·rw [if_pos (by rw [q]; rfl)]
  rw [if_pos q] at h
  obtain ⟨l2,nb⟩:=hr ok q
  rw [NV_len,if_pos (by omega)]
  refine asNV (by omega) ?_
  rw [if_pos (by omega)]
  refine asNV (by omega) ?_
  refine eData s _ _ (nb 0 (by omega)) (nb 1 (by omega)) hf hl m fun w f=>?_
  obtain ⟨d1,d2,d3⟩:=data_a s (r.ns.getD 0 0) (r.ns.getD 1 0)
  exact h w f m ⟨by rw [d1]; exact hm.h1,by rw [d2]; exact hm.h2,by rw [d3]; exact hm.h3⟩
 ·rw [if_neg (by simpa using q)]
  rw [if_neg q] at h
  exact h _ _ _ hm
theorem wi_beq' (a b:W32):(wi a == wi b)=(a == b):=by
 by_cases h:a=b
 ·rw [h]; simp
 ·rw [show (a == b)=false by simpa using h]
  have:wi a≠wi b:=fun q=>h (BitVec.eq_of_toNat_eq (by unfold wi at q; omega))
  simpa using this
theorem same5e (w v:Nat→W32):(wi (w 0) == wi (v 0) && (wi (w 1) == wi (v 1) && (wi (w 2) == wi (v 2) && (wi (w 3) == wi (v 3) && (wi (w 4) == wi (v 4) && true)))))=same5L w v:=by
 rw [wi_beq',wi_beq',wi_beq',wi_beq',wi_beq']
 unfold same5L
 simp only [Bool.and_true,Bool.and_assoc]
theorem eParse (s:List UInt8) (hs:s.length≤30000) {K:Unit×Bool×Int×Unit→Int×Int×Unit→List V→Bool→Bool→Prop}
  (h:∀ o f,K ((),(lparseL s).1.has,(lparseL s).1.ex,()) ((lparseL s).2.1,(lparseL s).2.2,()) (TLV (lparseL s).1.ls) o f):Xq16 (S s) K:=by
 unfold Xq16 Yq16
 refine eRows s (by omega) ?_
 obtain ⟨b1,b2,b3⟩:=rows_bd s hs
 rw [RWV_len]
 refine lp_ind (fun x=>(rowsL s).length - x.1.2.2.2.2.2.2.2.2.1.toNat) (fun x=>∃ (j:Nat) (g:LS) (m:List (Value×V)),j≤(rowsL s).length∧Mp m g∧LI (rowsL s) j g∧goL j g ((rowsL s).drop j)=goL 0 ls0 (rowsL s) ∧
  x=((S s,(),(),((),()),(),(),(),(((rowsL s).length:Nat):Int),(j:Int),()),([],false,0,()),(0,0,()),(TLV g.ls,false,0,g.off,g.bg,(),()),m,(RWV (rowsL s),true,false),())) ?_
  ⟨0,ls0,[],Nat.zero_le _,⟨.inl ⟨rfl,rfl⟩,.inl ⟨rfl,rfl⟩,.inl ⟨rfl,rfl⟩⟩,ls0_LI _,rfl,rfl⟩
 rintro x ⟨j,g,m,hj,hm,hi,hg,rfl⟩ k hk
 unfold Lq16_0
 dsimp only
 rw [RWV_len]
 have hlen:=hi.len
 have hsl:(rowsL s).length≤s.length+1:=by rw [rows_len]; exact lines_len s
 by_cases e:j < (rowsL s).length
 ·rw [if_pos (decide_eq_true (by omega)),if_pos (by omega),Int.toNat_natCast]
  refine asR0 e (asR1 e (asR2 e (asR3 e ?_)))
  have w1:w64 ((j:Int)+1)=((j+1:Nat):Int):=by rw [w64_in (by omega) (by omega)]; omega
  rw [w1]
  have hd:(rowsL s).drop j=(rowsL s).getD j lw0 :: (rowsL s).drop (j+1):=by rw [getD_in _ _ _ e]; exact List.drop_eq_getElem_cons e
  rw [hd,goL] at hg
  have hrd:((rowsL s).getD j lw0).ok=true→((rowsL s).getD j lw0).kd=[]→((rowsL s).getD j lw0).ns.length=2∧∀ i,i < 2→0≤((rowsL s).getD j lw0).ns.getD i 0∧((rowsL s).getD j lw0).ns.getD i 0≤9223372036854775807:=by
   rw [rows_get s j e]; exact row_data _
  have hli:=hi.line fun a b=>(hrd a b).2 1 (by omega)
  refine eLine g (j+1) _ m hm hrd hi.off (by omega) _ fun w f m' hm'=>?_
  by_cases c:(lineL g (j+1) ((rowsL s).getD j lw0)).2=0
  ·rw [if_neg (by rw [c]; decide)]
   rw [if_neg (fun z=>z c)] at hg
   exact hk _ ⟨j+1,_,m',e,hm',hli,hg,rfl⟩ (by show (rowsL s).length - Int.toNat ((j+1:Nat):Int) < (rowsL s).length - Int.toNat (j:Int); omega)
  ·rw [if_pos (by rw [bne_iff_ne]; exact c)]
   rw [if_pos c] at hg
   have hp:lparseL s=(tb0,((j+1:Nat):Int),(lineL g (j+1) ((rowsL s).getD j lw0)).2):=by
    unfold lparseL
    rw [← hg,if_pos c]
    exact congrArg (fun z=>(tb0,z,(lineL g (j+1) ((rowsL s).getD j lw0)).2)) (show (j:Int)+1=((j+1:Nat):Int) by omega)
   unfold Xq0s Yq0s
   rw [hp] at h
   exact h true true
 ·have:j=(rowsL s).length:=by omega
  subst this
  rw [if_neg (dneg (by omega))]
  rw [List.drop_length,goL] at hg
  have hp:lparseL s=endL (linesL s) (rowsL s) g:=by
   unfold lparseL
   rw [← hg,if_neg (by simp)]
  rw [hp] at h
  unfold endL at h
  by_cases b:g.bg=false
  ·rw [if_pos (by simp [b])]
   rw [if_pos b] at h
   unfold Xq0s Yq0s
   rw [w64_in (n:=(((rowsL s).length:Nat):Int)+1) (by omega) (by omega)]
   exact h true true
  rw [if_neg (by simpa using b)]
  rw [if_neg b] at h
  refine asMv hm.h2 fun _=>?_
  by_cases q2:g.a2 > 0
  ·rw [if_pos (decide_eq_true q2)]
   obtain ⟨y1,y2,y3⟩:=hi.e q2
   have w2:w64 (g.a2 - 1)=((g.a2.toNat - 1:Nat):Int):=by rw [w64_in (by omega) (by omega)]; omega
   have hlt2:g.a2.toNat - 1 < (rowsL s).length:=by omega
   obtain ⟨n1,n2⟩:((rowsL s).getD (g.a2.toNat - 1) lw0).ns.length=1∧0≤((rowsL s).getD (g.a2.toNat - 1) lw0).ns.getD 0 0∧((rowsL s).getD (g.a2.toNat - 1) lw0).ns.getD 0 0≤9223372036854775807:=by
    rw [rows_get s _ hlt2] at y2 y3 ⊢
    exact row_exp _ y3 y2
   rw [w2,if_pos (by omega),Int.toNat_natCast]
   refine asR2 hlt2 ?_
   rw [NV_len,n1,if_pos (by omega)]
   refine asNV (by omega) ?_
   generalize ((rowsL s).getD (g.a2.toNat - 1) lw0).ns.getD 0 0=nx at *
   refine ePosix nx n2.2 ?_
   rw [if_neg (show ¬ nx < 0 by omega)]
   refine kRightT ⟨g.ls,true,nx - 2208988800⟩ (by dsimp only; omega) ?_
   cases rt:rightT ⟨g.ls,true,nx - 2208988800⟩
   ·rw [if_pos (by simp)]
    rw [if_pos ⟨q2,rt⟩] at h
    unfold Xq0s Yq0s
    exact h true true
   rw [if_neg (by simp)]
   rw [if_neg (fun z=>by rw [rt] at z; cases z.2)] at h
   simp only [if_pos q2] at h
   refine asMv hm.h3 fun _=>?_
   by_cases q3:g.a3 > 0
   ·rw [if_pos (decide_eq_true q3)]
    obtain ⟨z1,z2⟩:=hi.h q3
    refine kLines s (by omega) ?_
    have w3:w64 (g.a3 - 1)=((g.a3.toNat - 1:Nat):Int):=by rw [w64_in (by omega) (by omega)]; omega
    have hlt:g.a3.toNat - 1 < (linesL s).length:=by rw [← rows_len]; omega
    rw [w3,WV_len,if_pos (by omega),Int.toNat_natCast]
    refine asWd hlt ?_
    have hx2:=row_hash ((linesL s).getD (g.a3.toNat - 1) []) (by rw [← rows_get s _ (by omega)]; exact z2)
    have hxl:((linesL s).getD (g.a3.toNat - 1) []).length≤s.length:=by rw [getD_in _ _ _ hlt]; exact lines_mem_len s _ (List.getElem_mem _)
    have l2:2≤((linesL s).getD (g.a3.toNat - 1) []).length:=by
     have:=congrArg List.length hx2
     rw [List.length_take] at this
     have:kHash.length=2:=rfl
     omega
    rw [S_size,if_pos (by omega),if_pos (by omega),S_extract,Int.toNat_natCast,List.take_of_length_le (by rw [List.length_drop]; omega)]
    refine eHash _ (by rw [List.length_drop]; omega) (eHashed _ b1 b2 b3 (sWords _ ?_))
    simp only [lt]
    rw [same5e]
    cases sm:same5L (hashW (((linesL s).getD (g.a3.toNat - 1) []).drop 2)) (wordsOf (digest (hashedL (rowsL s))))
    ·rw [if_pos (by simp)]
     unfold Xq0s Yq0s
     rw [if_pos ⟨q3,sm⟩] at h
     exact h true true
    ·rw [if_neg (by simp)]
     rw [if_neg (fun z=>by rw [sm] at z; cases z.2)] at h
     exact h _ _
   ·rw [if_neg (dneg q3)]
    rw [if_neg (fun z=>q3 z.1)] at h
    exact h _ _
  ·rw [if_neg (dneg q2)]
   rw [if_neg (fun z=>q2 z.1)] at h
   simp only [if_neg q2] at h
   refine asMv hm.h3 fun _=>?_
   by_cases q3:g.a3 > 0
   ·rw [if_pos (decide_eq_true q3)]
    obtain ⟨z1,z2⟩:=hi.h q3
    refine kLines s (by omega) ?_
    have w3:w64 (g.a3 - 1)=((g.a3.toNat - 1:Nat):Int):=by rw [w64_in (by omega) (by omega)]; omega
    have hlt:g.a3.toNat - 1 < (linesL s).length:=by rw [← rows_len]; omega
    rw [w3,WV_len,if_pos (by omega),Int.toNat_natCast]
    refine asWd hlt ?_
    have hx2:=row_hash ((linesL s).getD (g.a3.toNat - 1) []) (by rw [← rows_get s _ (by omega)]; exact z2)
    have hxl:((linesL s).getD (g.a3.toNat - 1) []).length≤s.length:=by rw [getD_in _ _ _ hlt]; exact lines_mem_len s _ (List.getElem_mem _)
    have l2:2≤((linesL s).getD (g.a3.toNat - 1) []).length:=by
     have:=congrArg List.length hx2
     rw [List.length_take] at this
     have:kHash.length=2:=rfl
     omega
    rw [S_size,if_pos (by omega),if_pos (by omega),S_extract,Int.toNat_natCast,List.take_of_length_le (by rw [List.length_drop]; omega)]
    refine eHash _ (by rw [List.length_drop]; omega) (eHashed _ b1 b2 b3 (sWords _ ?_))
    simp only [lt]
    rw [same5e]
    cases sm:same5L (hashW (((linesL s).getD (g.a3.toNat - 1) []).drop 2)) (wordsOf (digest (hashedL (rowsL s))))
    ·rw [if_pos (by simp)]
     unfold Xq0s Yq0s
     rw [if_pos ⟨q3,sm⟩] at h
     exact h true true
    ·rw [if_neg (by simp)]
     rw [if_neg (fun z=>by rw [sm] at z; cases z.2)] at h
     exact h _ _
   ·rw [if_neg (dneg q3)]
    rw [if_neg (fun z=>q3 z.1)] at h
    exact h _ _
end Go.Proofs.YtdjldmolhkkipaaGreatDoor
end
section
set_option linter.unusedVariables false
set_option linter.unusedSimpArgs false
namespace Go.Proofs.YtdjldmolhkkipaaGreatDoor
open Go Go.Proofs.YtdjldmolhkkipaaGreatDoor.Eng Go.Proofs.YtdjldmolhkkipaaGreatDoor.Pl
set_option maxRecDepth 100000
set_option maxHeartbeats 2000000
theorem kSame (a b:Tb) (hl:a.ls.length≤1000000) {K} (h:K (decide (a=b))):Xq0f (TLV a.ls,a.has,a.ex,()) (TLV b.ls,b.has,b.ex,()) K:=by
 unfold Xq0f Yq0f
 dsimp only
 rw [TLV_len,TLV_len]
 have ne:a≠b→K false:=fun hn=>by rw [decide_eq_false hn] at h; exact h
 by_cases e1:a.ls.length=b.ls.length
 ·rw [if_neg (by simp [e1])]
  by_cases e2:a.has=b.has
  ·rw [if_neg (by simp [e2])]
   by_cases e3:a.ex=b.ex
   ·rw [if_neg (by simp [e3])]
    refine lp_ind (fun x=>a.ls.length - x.1.2.2.2.1.toNat) (fun x=>∃ j:Nat,j≤a.ls.length∧a.ls.take j=b.ls.take j∧x=(((),(),false,(j:Int),()),(TLV a.ls,a.has,a.ex,()),(TLV b.ls,b.has,b.ex,()),())) ?_ ⟨0,by omega,rfl,rfl⟩
    rintro x ⟨j,hj,ht,rfl⟩ k hk
    unfold Lq0f_0
    dsimp only
    rw [TLV_len,TLV_len,Int.toNat_natCast]
    by_cases e:j < a.ls.length
    ·rw [if_pos (decide_eq_true (by omega)),if_pos (by omega)]
     refine asL1 e (asL2 e (asL3 e ?_))
     rw [if_pos (by omega)]
     have e':j < b.ls.length:=by omega
     refine asL1 e' (asL2 e' (asL3 e' ?_))
     simp only [lt]
     by_cases q:a.ls[j]=b.ls[j]
     ·rw [if_neg (by simp [q])]
      have w1:w64 ((j:Int)+1)=((j+1:Nat):Int):=by rw [w64_in (by omega) (by omega)]; omega
      rw [w1]
      refine hk _ ⟨j+1,e,?_,rfl⟩ (by show a.ls.length - Int.toNat ((j+1:Nat):Int) < a.ls.length - Int.toNat (j:Int); omega)
      rw [List.take_succ_eq_append_getElem e,List.take_succ_eq_append_getElem e',ht,q]
     ·have:(!((a.ls[j]).1 == (b.ls[j]).1 && ((a.ls[j]).2.1 == (b.ls[j]).2.1 && ((a.ls[j]).2.2 == (b.ls[j]).2.2 && true))))=true:=by
       rw [Bool.not_eq_true']
       cases hh:((a.ls[j]).1 == (b.ls[j]).1 && ((a.ls[j]).2.1 == (b.ls[j]).2.1 && ((a.ls[j]).2.2 == (b.ls[j]).2.2 && true)))
       ·rfl
       ·exfalso
        simp only [Bool.and_eq_true,beq_iff_eq,and_true] at hh
        exact q (Prod.ext hh.1 (Prod.ext hh.2.1 hh.2.2))
      rw [if_pos this]
      refine ne fun hab=>q ?_
      subst hab; rfl
    ·rw [if_neg (dneg (by omega))]
     have hj':j=a.ls.length:=by omega
     rw [hj',List.take_length,e1,List.take_length] at ht
     have:a=b:=by
      cases a; cases b; simp_all
     rw [decide_eq_true this] at h; exact h
   ·rw [if_pos (by simpa using e3)]
    exact ne fun hab=>e3 (by rw [hab])
  ·rw [if_pos (by simpa using e2)]
   exact ne fun hab=>e2 (by rw [hab])
 ·rw [if_pos (by simp; omega)]
  exact ne fun hab=>e1 (by rw [hab])
end Go.Proofs.YtdjldmolhkkipaaGreatDoor
end
section
set_option linter.unusedVariables false
set_option linter.unusedSimpArgs false
namespace Go.Proofs.YtdjldmolhkkipaaGreatDoor
open Go Go.Proofs.YtdjldmolhkkipaaGreatDoor.Eng Go.Proofs.YtdjldmolhkkipaaGreatDoor.Pl
set_option maxRecDepth 100000
set_option maxHeartbeats 2000000
theorem S_cat (a b:List UInt8):S a++ByteArray.mk b.toArray=S (a++b):=S_append a b
theorem ePair (p o:Int) (hp:0≤p+2208988800∧p≤9223372034645786000) (ho:0≤o∧o≤1000000000) {K:ByteArray→Prop} (h:K (S (lpairL p o++[10]))):Xq17 p o K:=by
 unfold Xq17 Yq17
 have i1:=itoaK_len (p+2208988800)
 have i2:=itoaK_len o
 refine eNtp p (by omega) hp.2 (sitoa _ (by omega) (by omega) ?_)
 rw [S_size,if_neg (by omega)]
 refine sitoa _ (by omega) (by omega) ?_
 rw [S_cat _ [9],S_size,S_size,if_neg (by rw [List.length_append,List.length_singleton]; omega)]
 simp only [lt]
 rw [S_append,S_size,if_neg (by rw [List.length_append,List.length_append,List.length_singleton]; omega),S_cat _ [10]]
 have:itoaK (p+2208988800)++[9]++itoaK o++[10]=lpairL p o++[10]:=by unfold lpairL; simp
 rw [this]; exact h
theorem ntext_len (w:Nat→W32):(ntextL w).length≤44:=by
 have pl:∀ i,(partW w i).length≤8:=fun i=>by unfold partW; rw [List.length_take]; omega
 unfold ntextL
 have:=pl 0; have:=pl 1; have:=pl 2; have:=pl 3; have:=pl 4
 simp [List.range,List.range.loop,Lib.join]
 omega
theorem lpair_len (p o:Int):(lpairL p o).length≤43:=by
 have i1:=itoaK_len (p+2208988800)
 have i2:=itoaK_len o
 unfold lpairL
 rw [List.length_append,List.length_cons]; omega
theorem textOf_cons (x:List UInt8) (L:List (List UInt8)):textOf (x :: L)=x++[10]++textOf L:=by simp [textOf]
theorem textOf_app (A B:List (List UInt8)):textOf (A++B)=textOf A++textOf B:=by simp [textOf]
theorem offs_len:∀ (q:List LR) (o:Int),(textOf (offsL o q)).length≤44 * q.length
 | [],o=>by simp [offsL,textOf]
 | l :: q,o=>by
  have:=offs_len q (o+l.2.1)
  have:=lpair_len ((l.1+1) * 86400) (o+l.2.1)
  rw [offsL,textOf_cons,List.length_append,List.length_append,List.length_singleton,List.length_cons]
  omega
def heads (t:Tb) (wh:Int):List (List UInt8):=(kStamp++9 :: itoaK wh) :: ((if t.has=true then [kExp++9 :: itoaK (t.ex+2208988800)] else [])++[lpairL 63072000 10])
theorem ahead_eq (t:Tb) (wh:Int):textOf (Pl.ahead t wh)=textOf (heads t wh)++textOf (offsL 10 t.ls):=by
 unfold Pl.ahead heads
 rw [← textOf_app]
 simp
theorem heads_len (t:Tb) (wh:Int):(textOf (heads t wh)).length≤200:=by
 have i1:=itoaK_len wh
 have i2:=itoaK_len (t.ex+2208988800)
 have i3:=lpair_len 63072000 10
 unfold heads
 rw [textOf_cons,textOf_app]
 split
 ·simp [textOf] at *; omega
 ·simp [textOf] at *; omega
theorem ltextB_len (t:Tb) (wh:Int) (hl:t.ls.length≤300):(textOf (Pl.ahead t wh)).length≤13400∧(ltextB t wh).length≤13500:=by
 have h1:=heads_len t wh
 have h2:=offs_len t.ls 10
 have h3:(textOf (Pl.ahead t wh)).length≤13400:=by rw [ahead_eq,List.length_append]; omega
 refine ⟨h3,?_⟩
 have:=ntext_len (wordsOf (hashL (textOf (Pl.ahead t wh))))
 unfold ltextB
 simp only [List.length_append,List.length_cons,List.length_nil]
 omega
theorem eTextLoop (t:Tb) (wh:Int) (hr:rightT t=true) (h0:0≤wh) (hl:t.ls.length≤300) {K:ByteArray→Bool→Prop} (h:K (S (ltextL t wh).1) (ltextL t wh).2) :
  lp (Lq1i_0 Xq17 Xq19 Xq1a Xq1m K) ((ByteArray.mk #[],false,S (textOf (heads t wh)),10,TLV t.ls,((t.ls.length:Nat):Int),0,()),()):=by
 have hall:=checkG_all _ _ _ (right_0 hr).1
 have hb:=heads_len t wh
 obtain ⟨hb1,hb2⟩:=ltextB_len t wh hl
 have no:offOk 10 t.ls=false→K (ByteArray.mk #[]) false:=fun q=>by
  unfold ltextL at h
  rw [if_neg (fun z=>by rw [q] at z; cases z.2.2)] at h
  exact h
 refine lp_ind (fun x=>t.ls.length - x.1.2.2.2.2.2.2.1.toNat) (fun x=>∃ (j:Nat) (o:Int) (B:List UInt8),j≤t.ls.length∧0≤o∧o≤10+j∧B.length≤200+44 * j∧offOk 10 t.ls=offOk o (t.ls.drop j) ∧
  B++textOf (offsL o (t.ls.drop j))=textOf (Pl.ahead t wh)∧x=((ByteArray.mk #[],false,S B,o,TLV t.ls,((t.ls.length:Nat):Int),(j:Int),()),())) ?_
  ⟨0,10,_,Nat.zero_le _,by omega,by omega,by omega,rfl,(ahead_eq t wh).symm,rfl⟩
 rintro x ⟨j,o,B,hj,o0,o1,hB,hk1,hk2,rfl⟩ k hk
 unfold Lq1i_0
 dsimp only
 rw [TLV_len,Int.toNat_natCast]
 by_cases e:j < t.ls.length
 ·rw [if_pos (decide_eq_true (by omega)),if_pos (by omega)]
  refine asL1 e (asL2 e (asL3 e ?_))
  obtain ⟨d1,d2,d3⟩:=hall t.ls[j] (List.getElem_mem e)
  have hd:t.ls.drop j=t.ls[j] :: t.ls.drop (j+1):=List.drop_eq_getElem_cons e
  rw [hd,offOk] at hk1
  rw [hd,offsL,textOf_cons] at hk2
  have ws:w64 (o+(t.ls[j]).2.1)=o+(t.ls[j]).2.1:=w64_in (by omega) (by omega)
  rw [ws]
  cases rl:(t.ls[j]).2.2
  ·rw [if_neg (by simp)]
   by_cases ng:o+(t.ls[j]).2.1 < 0
   ·rw [if_pos (decide_eq_true ng)]
    exact no (by rw [hk1,decide_eq_false (by omega)]; simp)
   ·rw [if_neg (dneg ng)]
    rw [rl,decide_eq_true (show 0≤o+(t.ls[j]).2.1 by omega)] at hk1
    simp only [lt]
    rw [w64_in (n:=(t.ls[j]).1+1) (by omega) (by omega),w64_in (n:=((t.ls[j]).1+1) * 86400) (by omega) (by omega)]
    refine ePair _ _ (by omega) (by omega) ?_
    have hp:=lpair_len (((t.ls[j]).1+1) * 86400) (o+(t.ls[j]).2.1)
    rw [S_size,S_size,if_neg (by rw [List.length_append,List.length_singleton]; omega),S_append]
    have w1:w64 ((j:Int)+1)=((j+1:Nat):Int):=by rw [w64_in (by omega) (by omega)]; omega
    rw [w1]
    refine hk _ ⟨j+1,o+(t.ls[j]).2.1,_,e,by omega,by omega,by rw [List.length_append,List.length_append,List.length_singleton]; omega,by simpa using hk1,by rw [List.append_assoc]; exact hk2,rfl⟩ (by show t.ls.length - Int.toNat ((j+1:Nat):Int) < t.ls.length - Int.toNat (j:Int); omega)
  ·rw [if_pos rfl]
   exact no (by rw [hk1,rl]; rfl)
 ·have:j=t.ls.length:=by omega
  subst this
  rw [if_neg (dneg (by omega))]
  rw [List.drop_length] at hk1 hk2
  rw [offOk] at hk1
  rw [offsL,show textOf []=[] from rfl,List.append_nil] at hk2
  unfold ltextL at h
  rw [if_pos ⟨hr,h0,hk1⟩] at h
  subst hk2
  have hn:=ntext_len (wordsOf (hashL (textOf (Pl.ahead t wh))))
  rw [S_size,if_neg (by omega)]
  simp only [lt]
  rw [S_cat _ [35,104],S_size,if_neg (by simp only [List.length_append,List.length_cons,List.length_nil]; omega)]
  refine eHashS _ (by omega) (sWords _ (eNtext _ ?_))
  rw [S_cat _ [9],S_size,S_size,if_neg (by simp only [List.length_append,List.length_cons,List.length_nil]; omega),S_append,S_size,if_neg (by simp only [List.length_append,List.length_cons,List.length_nil]; omega),S_cat _ [10]]
  have:textOf (Pl.ahead t wh)++[35,104]++[9]++ntextL (wordsOf (hashL (textOf (Pl.ahead t wh))))++[10]=ltextB t wh:=by unfold ltextB; simp
  rw [this]; exact h
theorem eText (t:Tb) (wh:Int) (hw:wh≤9223372036854775807) (hl:t.ls.length≤300) {K:ByteArray→Bool→Prop} (h:K (S (ltextL t wh).1) (ltextL t wh).2):Xq1i (TLV t.ls,t.has,t.ex,()) wh K:=by
 unfold Xq1i Yq1i
 refine kRightT t (by omega) ?_
 cases rt:rightT t
 ·rw [if_pos (by simp)]
  unfold ltextL at h
  rw [if_neg (fun z=>by rw [rt] at z; cases z.1)] at h
  exact h
 rw [if_neg (by simp)]
 by_cases w0:wh < 0
 ·rw [if_pos (decide_eq_true w0)]
  unfold ltextL at h
  rw [if_neg (fun z=>by omega)] at h
  exact h
 rw [if_neg (dneg w0)]
 have hx:=right_ex rt
 have i1:=itoaK_len wh
 have i2:=itoaK_len (t.ex+2208988800)
 have i3:=lpair_len 63072000 10
 refine sitoa _ (by omega) (by omega) ?_
 rw [S_size,if_neg (by omega)]
 simp only [lt]
 have c1:ByteArray.mk #[(35:UInt8),(36:UInt8),(9:UInt8)]++S (itoaK wh)=S ([35,36,9]++itoaK wh):=S_append [35,36,9] _
 rw [c1,S_size,if_neg (by simp only [List.length_append,List.length_cons,List.length_nil]; omega),S_cat _ [10]]
 rw [TLV_len]
 have loop:=eTextLoop t wh rt (by omega) hl h
 unfold heads at loop
 cases hh:t.has
 ·rw [if_neg (by simp)]
  rw [hh] at loop
  refine ePair _ _ (by omega) (by omega) ?_
  rw [S_size,S_size,if_neg (by simp only [List.length_append,List.length_cons,List.length_nil]; omega),S_append]
  have e:textOf ((kStamp++9 :: itoaK wh) :: ((if false=true then [kExp++9 :: itoaK (t.ex+2208988800)] else [])++[lpairL 63072000 10]))=[35,36,9]++itoaK wh++[10]++(lpairL 63072000 10++[10]):=by simp [textOf]
  rw [e] at loop
  exact loop
 ·rw [if_pos rfl]
  rw [hh] at loop
  have:=hx.2 hh
  refine eNtp t.ex (by omega) (by omega) (sitoa _ (by omega) (by omega) ?_)
  rw [S_size,if_neg (by omega)]
  have c2:ByteArray.mk #[(35:UInt8),(64:UInt8),(9:UInt8)]++S (itoaK (t.ex+2208988800))=S ([35,64,9]++itoaK (t.ex+2208988800)):=S_append [35,64,9] _
  rw [c2,S_size,if_neg (by simp only [List.length_append,List.length_cons,List.length_nil]; omega),S_cat _ [10],S_size,S_size,if_neg (by simp only [List.length_append,List.length_cons,List.length_nil]; omega),S_append]
  refine ePair _ _ (by omega) (by omega) ?_
  rw [S_size,S_size,if_neg (by simp only [List.length_append,List.length_cons,List.length_nil]; omega),S_append]
  have e:textOf ((kStamp++9 :: itoaK wh) :: ((if true=true then [kExp++9 :: itoaK (t.ex+2208988800)] else [])++[lpairL 63072000 10]))=[35,36,9]++itoaK wh++[10]++([35,64,9]++itoaK (t.ex+2208988800)++[10])++(lpairL 63072000 10++[10]):=by simp [textOf]
  rw [e] at loop
  exact loop
theorem eParseAt (s:List UInt8) (r:Tb×Int×Int) (e:lparseL s=r) (hs:Nat.ble s.length 30000=true) {K} (h:∀ o f,K ((),r.1.has,r.1.ex,()) (r.2.1,r.2.2,()) (TLV r.1.ls) o f):Xq16 (S s) K:=by
 subst e; exact eParse s (Nat.le_of_ble_eq_true hs) h
end Go.Proofs.YtdjldmolhkkipaaGreatDoor
end
