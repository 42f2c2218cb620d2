/- What the functions come to in plain data, with proofs, and what that answers. -/
import Derived.Test.YtbnpclndiichcaaGreatDoorJTzifTells2
section
set_option linter.unusedVariables false
set_option linter.unusedSimpArgs false
namespace Go.Proofs.YtbnpclndiichcaaGreatDoor
open Go Go.Proofs.YtbnpclndiichcaaGreatDoor.Eng Go.Proofs.YtbnpclndiichcaaGreatDoor.Pl
theorem rabbr (l:List UInt8) (hl:l.length≤140737488351232) {K} (h:K (abbrL l)):Xq1s (S l) K:=by
 unfold Xq1s Yq1s
 have hn:=nl_le badC l
 refine lp_at (fun j:Nat=>((S l,false,(j:Int),()),())) (nl badC l) rfl fun j hj k hk=>?_
 unfold Lq1s_0
 simp only [decide_eq_true_eq,ge_iff_le,gt_iff_lt,bne_iff_ne,ne_eq,not_true]
 by_cases hlt:j < nl badC l
 ·have hjl:j < l.length:=by omega
  have hg:badC l[j]=false:=(nl_spec badC l j hjl).1 hlt
  have hk':k ((S l,false,w64 ((j:Int)+1),()),()):=by
   rw [w64_in (by omega) (by omega)]
   exact hk hlt
  simp only [S_size,Int.toNat_natCast,bAt_get l j hjl]
  unfold badC at hg
  simp at hg
  refine ifT (by omega) (ifT (by omega) ?_)
  repeat' (first | exact hk' | refine ifC (fun _=>?_) (fun _=>?_))
  all_goals (exfalso; omega)
 ·have ej:j=nl badC l:=by omega
  by_cases hjl:j < l.length
  ·have hb:badC l[j]=true:=(nl_spec badC l j hjl).2 ej
   have hK:K false:=by
    have:abbrL l=false:=by
     unfold abbrL
     rw [show l.any badC=true by rw [nl_any]; exact decide_eq_true (by omega)]
     simp
    rw [← this]; exact h
   simp only [S_size,Int.toNat_natCast,bAt_get l j hjl]
   unfold badC at hb
   simp at hb
   refine ifT (by omega) (ifT (by omega) ?_)
   repeat' (first | exact hK | refine ifC (fun _=>?_) (fun _=>?_))
   all_goals (exfalso; omega)
  ·simp only [S_size]
   refine ifF (by omega) ?_
   have hany:l.any badC=false:=by rw [nl_any]; exact decide_eq_false (by omega)
   unfold abbrL at h
   rw [hany] at h
   refine ifC (fun h1=>?_) fun h1=>?_
   ·refine cast (congrArg K ?_) h
    apply Bool.eq_iff_iff.2
    simp
    omega
   ·refine cast (congrArg K ?_) h
    apply Bool.eq_iff_iff.2
    simp
    omega
theorem rkind (o:Int) (d:Bool) (l:List UInt8) (hl:l.length≤140737488351232) (w:Bool) {K} (h:K (kindR o d l w)):Xq24 (o,d,S l,()) w K:=by
 unfold Xq24 Yq24
 refine rabbr l hl ?_
 unfold kindR at h
 simp only [ge_iff_le,decide_eq_true_eq,beq_iff_eq]
 by_cases e1:abbrL l=true
 ·refine ifT e1 ?_
  by_cases e2:d=w
  ·refine ifT e2 ?_
   simp only [e1,e2,beq_self_eq_true,Bool.true_and] at h
   refine ifC (fun e3=>cast (congrArg K ?_) h) fun e3=>cast (congrArg K ?_) h
   ·simp [e3]
   ·simp [e3]
  ·exact ifF e2 (cast (congrArg K (by simp [e2])) h)
 ·exact ifF e1 (cast (congrArg K (by simp [e1])) h)
theorem rfootRight (f:Ft) (h1:f.sa.length≤140737488351232) (h2:f.wa.length≤140737488351232) {K} (h:K f.ok):Xq1p (tupFt f) K:=by
 unfold Xq1p Yq1p
 unfold Ft.ok at h
 by_cases eh:f.has=true
 ·rw [if_pos eh] at h
  refine ifF (by simp [eh]) (rruleRight _ _ _ _ _ (rruleRight _ _ _ _ _ ?_))
  have fin:∀ z:Bool,z=(kindR f.so f.sd f.sa false && (kindR f.wo f.wd f.wa true && f.fr.ok && f.to.ok))→K z:=fun z hz=>by rw [hz]; exact h
  by_cases e3:f.fr.ok=true
  ·refine ifT e3 ?_
   by_cases e4:f.to.ok=true
   ·refine ifT e4 (rkind _ _ _ h1 _ ?_)
    by_cases e1:kindR f.so f.sd f.sa false=true
    ·exact ifT e1 (rkind _ _ _ h2 _ (fin _ (by simp [e1,e3,e4])))
    ·exact ifF e1 (fin _ (by simp [e1]))
   ·exact ifF e4 (fin _ (by simp [e4]))
  ·exact ifF e3 (fin _ (by simp [e3]))
 ·rw [if_neg eh] at h
  refine ifT (by simpa using eh) (rkind _ _ _ h1 _ ?_)
  have key:∀ z:Bool,(z=true↔f.bare)→kindR f.so f.sd f.sa false=true→K z:=fun z hz e=>by
   rw [e,Bool.true_and] at h
   exact cast (congrArg K (Bool.eq_iff_iff.2 (decide_eq_true_iff.trans hz.symm))) h
  by_cases e1:kindR f.so f.sd f.sa false=true
  ·refine ifT e1 ?_
   simp only [lt]
   have e0:(ByteArray.mk #[]).toList=[]:=S_toList []
   refine ifC (fun c1=>ifC (fun c2=>key _ ?_ e1) fun c2=>key _ ?_ e1) fun c1=>key _ ?_ e1
   ·unfold Ft.bare
    simp [S_toList] at c1 c2 ⊢
    constructor <;> intro hh <;> simp [hh,c1,c2]
   ·unfold Ft.bare
    simp [S_toList] at c1 c2 ⊢
    intro _ _ _ q1 q2 q3 q4 q5
    exact absurd q5 (c2 q1 q2 q3 q4)
   ·unfold Ft.bare
    simp [S_toList] at c1 ⊢
    intro q1 q2 q3
    exact absurd q3 (c1 q1 q2)
  ·exact ifF e1 (cast (congrArg K (by simp [e1])) h)
end Go.Proofs.YtbnpclndiichcaaGreatDoor
end
section
set_option linter.unusedVariables false
set_option linter.unusedSimpArgs false
namespace Go.Proofs.YtbnpclndiichcaaGreatDoor
open Go Go.Proofs.YtbnpclndiichcaaGreatDoor.Eng Go.Proofs.YtbnpclndiichcaaGreatDoor.Pl
set_option maxRecDepth 100000
set_option maxHeartbeats 4000000
theorem nfits (k:Nat) (hk:k=1∨k=4∨k=8) (n:Int) (hn:k=8→i64r n) {K:Bool→Prop} (h:K (fits k n)):Xq1x n (k:Int) K:=by
 unfold Xq1x Yq1x
 unfold fits at h
 unfold i64r at hn
 rcases hk with rfl | rfl | rfl
 ·rw [if_pos (by decide)]
  rw [if_pos rfl] at h
  by_cases c:n≥0
  ·rw [if_pos (decide_eq_true c)]
   have:decide (n≤255)=decide (0≤n∧n < 256):=by rw [Bool.eq_iff_iff,decide_eq_true_eq,decide_eq_true_eq]; omega
   rw [this]; exact h
  ·rw [if_neg (dneg c)]
   rw [decide_eq_false (by omega)] at h; exact h
 ·rw [if_neg (by decide),if_pos (by decide)]
  rw [if_neg (by decide),show ((256:Int) ^ 4 / 2)=2147483648 by decide] at h
  by_cases c:n≥-2147483648
  ·rw [if_pos (decide_eq_true c)]
   have:decide (n < 2147483648)=decide (-2147483648≤n∧n < 2147483648):=by rw [Bool.eq_iff_iff,decide_eq_true_eq,decide_eq_true_eq]; omega
   rw [this]; exact h
  ·rw [if_neg (dneg c)]
   rw [decide_eq_false (by omega)] at h; exact h
 ·rw [if_neg (by decide),if_neg (by decide)]
  have hn:=hn rfl
  rw [if_neg (by decide),show decide (-((256:Int) ^ 8 / 2)≤n∧n < (256:Int) ^ 8 / 2)=true by rw [decide_eq_true_eq]; omega] at h
  exact h
theorem nPut (l:List UInt8) (hl:l.length≤10000000) (k:Nat) (hk:k=1∨k=4∨k=8) (n:Int) (hn:k=8→i64r n) {K:Bool→List V→Bool→Bool→Prop}
  (h:K (fits k n) (B8 (l++if fits k n=true then be k n else [])) true false):Xq2a (B8 l) n (k:Int) K:=by
 unfold Xq2a Yq2a
 rw [B8_len,Nat.zero_add,if_pos (room1 _ (by omega)),List.nil_append]
 refine nfits k hk n hn ?_
 cases hf:fits k n
 ·rw [if_pos (by rfl)]
  rw [hf] at h; simpa using h
 rw [if_neg (by simp)]
 rw [hf] at h
 have ek:w64 ((k:Int) - 1)=(k:Int) - 1:=w64_in (by omega) (by omega)
 rw [ek]
 refine lp_ind (fun x=>(x.1.2.2.2.2.1+1).toNat) (fun x=>∃ (m:Nat) (pre:List UInt8),m≤k∧pre++be m n=be k n∧x=((n,(),false,(),(m:Int) - 1,()),B8 (l++pre),())) ?_ ⟨k,[],Nat.le_refl _,rfl,by simp⟩
 rintro x ⟨m,pre,hm,hp,rfl⟩ k' hk'
 unfold Lq2a_0
 dsimp only
 have hlen:=congrArg List.length hp
 rw [List.length_append,be_len,be_len] at hlen
 cases m with
 | zero =>
  rw [if_neg (dneg (by omega))]
  rw [be,List.append_nil] at hp
  rw [if_pos rfl,← hp] at h
  exact h
 | succ m =>
  rw [if_pos (decide_eq_true (by omega))]
  have e0:((m+1:Nat):Int) - 1=(m:Int):=by omega
  have e1:w64 ((m:Int) - 1)=(m:Int) - 1:=w64_in (by omega) (by omega)
  have e2:w64 (8 * (m:Int))=8 * (m:Int):=w64_in (by omega) (by omega)
  rw [e0]
  simp only [lt,e1,e2]
  rw [if_neg (by omega),put_byte n m (by omega),if_pos (room1 _ (by rw [B8_len]; simp; omega))]
  refine hk' _ ⟨m,pre++[UInt8.ofNat ((n / (256:Int) ^ m) % 256).toNat],by omega,?_,?_⟩ (by show ((m:Int) - 1+1).toNat < (((m+1:Nat):Int) - 1+1).toNat; omega)
  ·rw [← hp,be]; simp
  ·rw [← List.append_assoc]
   simp [B8]
theorem nOpen (l:List UInt8) (hl:l.length≤100000000) {K:Bool→List V→Bool→Bool→Prop} (h:K false (B8 l) true false):Xq1u (B8 l) K:=by
 unfold Xq1u Yq1u
 rw [B8_len,Nat.zero_add,if_pos (room1 _ (by omega)),List.nil_append]; exact h
theorem nTake (n:Nat) (bad:Bool) (l:List UInt8) (hl:l.length≤100000000) (o f:Bool) {K:Bool→List V→Bool→Bool→List V→Bool→Bool→Prop}
  (h:bad=false→n≤l.length→K false (B8 (l.take n)) true false (B8 (l.drop n)) false true) (h':(bad=true∨l.length < n)→K true [] true true [] true true):Xq0e (n:Int) bad (B8 l) o f K:=by
 unfold Xq0e Yq0e
 cases bad
 ·rw [if_neg (by simp),if_neg (dneg (by omega)),B8_len]
  by_cases e:l.length < n
  ·rw [if_pos (decide_eq_true (by omega))]; exact h' (.inr e)
  ·rw [if_neg (dneg (by omega)),if_pos (by omega),if_pos (by omega),Int.toNat_natCast,Int.toNat_natCast,B8_cut,B8_cut,List.drop_zero,Nat.sub_zero,Nat.zero_add,B8_len]
   have e9:List.take (l.length - n) (l.drop n)=l.drop n:=List.take_of_length_le (by rw [List.length_drop]; omega)
   rw [if_pos (room1 _ (by rw [List.length_take]; omega)),if_pos (by omega),if_pos (by omega),e9,List.nil_append]
   exact h rfl (by omega)
 ·rw [if_pos rfl]; exact h' (.inl rfl)
theorem nNum (k:Nat) (hk:k=1∨k=4∨k=8) (bad:Bool) (l:List UInt8) (hl:l.length≤100000000) (o f:Bool) {K:Int→Bool→List V→Bool→Bool→Prop}
  (h:bad=false→k≤l.length→K (numB (l.take k)) false (B8 (l.drop k)) false true) (h':(bad=true∨l.length < k)→K 0 true [] true true):Xq0f (k:Int) bad (B8 l) o f K:=by
 unfold Xq0f Yq0f
 have main:Xq0e (k:Int) bad (B8 l) o f (fun r38 r39 r40 r41 r42 r43 r44=>Eng.lp (Lq0f_0 K bad (B8 l) o f) (((k:Int),0,(),0,0,()),((),r38,()),(r42,r43,r44),(r39,r40,r41),())):=by
  refine nTake k bad l hl o f (fun hb hn=>?_) fun hb=>?_
  ·have hd:(l.take k).length=k:=by rw [List.length_take]; omega
   have h:=h hb hn
   generalize l.take k=d at *
   refine lp_ind (fun x=>d.length - x.1.2.2.2.2.1.toNat) (fun x=>∃ j:Nat,j≤d.length∧x=(((k:Int),0,(),ub (d.take j),(j:Int),()),((),false,()),(B8 (l.drop k),false,true),(B8 d,true,false),())) ?_ ⟨0,by omega,by rw [List.take_zero]; rfl⟩
   rintro x ⟨j,hj,rfl⟩ k' hk'
   unfold Lq0f_0
   dsimp only
   rw [B8_len,Int.toNat_natCast]
   by_cases e:j < d.length
   ·have e1:w64 ((j:Int)+1)=((j+1:Nat):Int):=by rw [w64_in (by omega) (by omega)]; omega
    rw [if_pos (decide_eq_true (by omega)),if_pos (by omega),e1]
    refine asB8 e ?_
    have ht:d.take (j+1)=d.take j++[d[j]]:=List.take_succ_eq_append_getElem e
    have hlt:(d.take j).length=j:=by rw [List.length_take]; omega
    have hu:=ub_rng (d.take j)
    rw [hlt] at hu
    have hp:(256:Int) ^ j≤72057594037927936:=by
     have h7:256 ^ j≤256 ^ 7:=Nat.pow_le_pow_right (by decide) (by omega)
     have e7:((256 ^ j:Nat):Int)=(256:Int) ^ j:=by simp
     have e8:(256:Nat) ^ 7=72057594037927936:=by decide
     omega
    simp only [lt]
    rw [or_u (by omega) _ (d[j]).toNat_lt,← ub_snoc,← ht]
    exact hk' _ ⟨j+1,e,rfl⟩ (by show d.length - ((j+1:Nat):Int).toNat < d.length - ((j:Nat):Int).toNat; omega)
   ·have:j=d.length:=by omega
    subst this
    rw [if_neg (dneg (by omega)),List.take_length]
    by_cases k4:k=4
    ·rw [if_pos (by simp [k4]),num_fin4 (by omega)]; exact h
    ·rw [if_neg (by simp; omega),num_fin (k:=k) (by omega) hd]; exact h
  ·refine lp_stopN fun k'=>?_
   unfold Lq0f_0
   dsimp only
   rw [if_neg (by simp)]
   by_cases k4:k=4
   ·rw [if_pos (by simp [k4])]; exact h' hb
   ·rw [if_neg (by simp; omega)]; exact h' hb
 rcases hk with rfl | rfl | rfl
 ·rw [if_neg (by decide)]; exact main
 ·rw [if_pos (by decide),if_neg (by decide)]; exact main
 ·rw [if_pos (by decide),if_pos (by decide),if_neg (by decide)]; exact main
theorem nNumS (k:Nat) (hk:k=1∨k=4∨k=8) (l:List UInt8) (hl:l.length≤100000000) (hn:k≤l.length) (o f:Bool) {K:Int→Bool→List V→Bool→Bool→Prop}
  (h:K (numB (l.take k)) false (B8 (l.drop k)) false true):Xq0f (k:Int) false (B8 l) o f K :=
 nNum k hk false l hl o f (fun _ _=>h) (fun q=>q.elim (fun q=>by cases q) (fun q=>by omega))
theorem nTakeS (n:Nat) (l:List UInt8) (hl:l.length≤100000000) (hn:n≤l.length) (o f:Bool) {K:Bool→List V→Bool→Bool→List V→Bool→Bool→Prop}
  (h:K false (B8 (l.take n)) true false (B8 (l.drop n)) false true):Xq0e (n:Int) false (B8 l) o f K :=
 nTake n false l hl o f (fun _ _=>h) (fun q=>q.elim (fun q=>by cases q) (fun q=>by omega))
theorem nHead (h:Hd) {K:Bool→Prop} (hk:K (headOk h)):Xq1r (tupHd h) K:=by
 obtain ⟨v,ut,sd,l,t,y,c⟩:=h
 unfold Xq1r Yq1r tupHd
 unfold headOk nin at hk
 dsimp only at hk ⊢
 have no:(¬ (1≤v∧v≤4)∨¬ (1≤y∧y≤64)∨¬ (1≤c∧c≤256)∨¬ (0≤l∧l≤201)∨¬ (0≤t∧t≤2000))→K false:=fun q=>by
  have:(decide (0≤l∧l≤201) && decide (0≤t∧t≤2000) && decide (1≤y∧y≤64) && decide (1≤c∧c≤256) && decide (1≤v∧v≤4) && (ut == 0 || ut == y) && (sd == 0 || sd == y))=false:=by
   rw [Bool.eq_false_iff]; intro w
   simp only [Bool.and_eq_true,decide_eq_true_eq] at w
   omega
  rw [this] at hk; exact hk
 by_cases a1:v < 1
 ·rw [if_pos (decide_eq_true a1)]; exact no (by omega)
 rw [if_neg (dneg a1)]
 by_cases a2:v > 4
 ·rw [if_pos (decide_eq_true a2)]; exact no (by omega)
 rw [if_neg (dneg a2)]
 by_cases a3:y < 1
 ·rw [if_pos (decide_eq_true a3)]; exact no (by omega)
 rw [if_neg (dneg a3)]
 by_cases a4:y > 64
 ·rw [if_pos (decide_eq_true a4)]; exact no (by omega)
 rw [if_neg (dneg a4)]
 by_cases a5:c < 1
 ·rw [if_pos (decide_eq_true a5)]; exact no (by omega)
 rw [if_neg (dneg a5)]
 by_cases a6:c > 256
 ·rw [if_pos (decide_eq_true a6)]; exact no (by omega)
 rw [if_neg (dneg a6)]
 by_cases a7:l < 0
 ·rw [if_pos (decide_eq_true a7)]; exact no (by omega)
 rw [if_neg (dneg a7)]
 by_cases a8:l > 201
 ·rw [if_pos (decide_eq_true a8)]; exact no (by omega)
 rw [if_neg (dneg a8)]
 by_cases a9:t < 0
 ·rw [if_pos (decide_eq_true a9)]; exact no (by omega)
 rw [if_neg (dneg a9)]
 by_cases a10:t > 2000
 ·rw [if_pos (decide_eq_true a10)]; exact no (by omega)
 rw [if_neg (dneg a10)]
 rw [decide_eq_true (show 0≤l∧l≤201 by omega),decide_eq_true (show 0≤t∧t≤2000 by omega),decide_eq_true (show 1≤y∧y≤64 by omega),decide_eq_true (show 1≤c∧c≤256 by omega),decide_eq_true (show 1≤v∧v≤4 by omega)] at hk
 cases b1:(ut == 0) <;> cases b2:(ut == y) <;> cases b3:(sd == 0) <;> cases b4:(sd == y) <;> simp only [b1,b2,b3,b4,Bool.true_and,Bool.and_true,Bool.false_and,Bool.and_false,Bool.or_true,Bool.true_or,Bool.or_false,Bool.false_or,if_true,Bool.false_eq_true,if_false] at hk ⊢ <;> exact hk
theorem nSize (h:Hd) (k:Nat) (hk:k=4∨k=8) {K:Int→Prop} (hK:K (sizeR h k)):Xq23 (tupHd h) (k:Int) K:=by
 unfold Xq23 Yq23
 refine nHead h ?_
 unfold sizeR at hK
 cases q:headOk h
 ·rw [if_pos (by rfl)]
  rw [q,if_neg (by simp)] at hK; exact hK
 ·rw [q,if_pos ⟨rfl,hk⟩] at hK
  rw [if_neg (by simp)]
  have o:=head_ok q
  obtain ⟨v,ut,sd,l,t,y,c⟩:=h
  obtain ⟨o1,o2,o3,o4,o5,o6,o7⟩:=o
  unfold tupHd
  dsimp only at *
  simp only [lt]
  have e:w64 (w64 (w64 (w64 (w64 (w64 (w64 ((k:Int)+1) * t)+w64 (6 * y))+c)+w64 (w64 ((k:Int)+4) * l))+sd)+ut)=t * (k+1)+y * 6+c+l * (k+4)+sd+ut:=by
   rcases hk with rfl | rfl
   ·rw [show w64 (((4:Nat):Int)+1)=5 from rfl,show w64 (((4:Nat):Int)+4)=8 from rfl,w64_in (n:=5 * t) (by omega) (by omega),w64_in (n:=6 * y) (by omega) (by omega),w64_in (n:=8 * l) (by omega) (by omega),w64_in (n:=5 * t+6 * y) (by omega) (by omega),w64_in (n:=5 * t+6 * y+c) (by omega) (by omega),w64_in (n:=5 * t+6 * y+c+8 * l) (by omega) (by omega),w64_in (n:=5 * t+6 * y+c+8 * l+sd) (by omega) (by omega),w64_in (by omega) (by omega)]
    simp; omega
   ·rw [show w64 (((8:Nat):Int)+1)=9 from rfl,show w64 (((8:Nat):Int)+4)=12 from rfl,w64_in (n:=9 * t) (by omega) (by omega),w64_in (n:=6 * y) (by omega) (by omega),w64_in (n:=12 * l) (by omega) (by omega),w64_in (n:=9 * t+6 * y) (by omega) (by omega),w64_in (n:=9 * t+6 * y+c) (by omega) (by omega),w64_in (n:=9 * t+6 * y+c+12 * l) (by omega) (by omega),w64_in (n:=9 * t+6 * y+c+12 * l+sd) (by omega) (by omega),w64_in (by omega) (by omega)]
    simp; omega
  rw [e]
  by_cases k4:k=4
  ·rw [if_neg (by simp [k4])]; exact hK
  ·rw [if_pos (by simp; omega),if_neg (by simp; omega)]; exact hK
end Go.Proofs.YtbnpclndiichcaaGreatDoor
end
section
set_option linter.unusedVariables false
set_option linter.unusedSimpArgs false
namespace Go.Proofs.YtbnpclndiichcaaGreatDoor
open Go Go.Proofs.YtbnpclndiichcaaGreatDoor.Eng Go.Proofs.YtbnpclndiichcaaGreatDoor.Pl
set_option maxRecDepth 100000
set_option maxHeartbeats 4000000
theorem qSame12 (a b:List Rec) (hl:a.length≤100000) {K:Bool→Prop} (h:K (a == b)):Xq1z (RV a) (RV b) K:=by
 unfold Xq1z Yq1z
 rw [RV_len,RV_len]
 by_cases e:a.length=b.length
 ·rw [if_neg (by simp [e])]
  refine lp_ind (fun x=>a.length - x.1.2.2.2.1.toNat) (fun x=>∃ j:Nat,j≤a.length∧x=((RV a,RV b,false,(j:Int),()),())∧a.take j=b.take j) ?_ ⟨0,by omega,rfl,rfl⟩
  rintro x ⟨j,hj,rfl,hall⟩ k hk
  unfold Lq1z_0
  simp only [decide_eq_true_eq,RV_len]
  by_cases ej:j=a.length
  ·rw [if_neg (by omega)]
   rw [ej,List.take_length,e,List.take_length] at hall
   have:(a == b)=true:=by rw [hall]; exact beq_self_eq_true _
   rw [this] at h; exact h
  ·have h1:j < a.length:=by omega
   have h2:j < b.length:=by omega
   rw [Int.toNat_natCast,if_pos (by omega),if_pos (by omega)]
   refine asR1 h1 (asR2 h1 ?_)
   rw [if_pos (by omega)]
   refine asR1 h2 (asR2 h2 ?_)
   have e1:w64 ((j:Int)+1)=((j+1:Nat):Int):=by rw [w64_in (by omega) (by omega)]; omega
   simp only [e1]
   by_cases ee:a[j]=b[j]
   ·rw [if_neg (by rw [ee]; simp)]
    refine hk _ ⟨j+1,by omega,rfl,?_⟩ ?_
    ·rw [List.take_succ_eq_append_getElem h1,List.take_succ_eq_append_getElem h2,hall,ee]
    ·show a.length - ((j+1:Nat):Int).toNat < a.length - ((j:Nat):Int).toNat
     omega
   ·rw [if_pos (by
     simp only [Bool.not_eq_true',Bool.and_true,Bool.and_eq_false_iff,beq_eq_false_iff_ne,ne_eq]
     by_cases q:(a[j]).1=(b[j]).1
     ·exact .inr fun q2=>ee (Prod.ext q q2)
     ·exact .inl q)]
    have:(a == b)=false:=by
     rw [beq_eq_false_iff_ne]; intro hh; subst hh; exact ee rfl
    rw [this] at h; exact h
 ·rw [if_pos (by simp; omega)]
  have:(a == b)=false:=by
   rw [beq_eq_false_iff_ne]; intro hh; exact e (by rw [hh])
  rw [this] at h; exact h
theorem qSame16 (a b:Zn) (h1:a.ty.length≤100000) (h2:a.tr.length≤100000) (h3:a.lp.length≤100000) {K:Bool→Prop} (h:K (sameZ a b)):Xq22 (tupZ a) (tupZ b) K:=by
 show Xq22 (TV a.ty,RV a.tr,RV a.lp,S a.ft,a.v,()) (TV b.ty,RV b.tr,RV b.lp,S b.ft,b.v,()) K
 unfold Xq22 Yq22
 dsimp only
 rw [TV_len,TV_len,RV_len,RV_len,S_toList,S_toList]
 have no:(a.ty≠b.ty∨a.tr≠b.tr∨a.ft≠b.ft∨a.v≠b.v)→K false:=fun hn=>by
  have:sameZ a b=false:=by
   unfold sameZ
   simp only [Bool.and_eq_false_iff,beq_eq_false_iff_ne]
   rcases hn with hn | hn | hn | hn
   ·exact .inl (.inl (.inl (.inl hn)))
   ·exact .inl (.inl (.inl (.inr hn)))
   ·exact .inl (.inr hn)
   ·exact .inr hn
  rw [this] at h; exact h
 by_cases e1:a.ty.length=b.ty.length
 ·rw [if_neg (by simp [e1])]
  by_cases e2:a.tr.length=b.tr.length
  ·rw [if_neg (by simp [e2])]
   by_cases e3:a.ft=b.ft
   ·rw [if_neg (by simp [e3])]
    by_cases e4:a.v=b.v
    ·rw [if_neg (by simp [e4])]
     refine lp_ind (fun x=>a.ty.length - x.1.2.2.2.1.toNat) (fun x=>∃ j:Nat,j≤a.ty.length∧x=(((),(),false,(j:Int),()),(TV a.ty,RV a.tr,RV a.lp,S a.ft,a.v,()),(TV b.ty,RV b.tr,RV b.lp,S b.ft,b.v,()),())∧a.ty.take j=b.ty.take j) ?_ ⟨0,by omega,rfl,rfl⟩
     rintro x ⟨j,hj,rfl,hall⟩ k hk
     unfold Lq22_0
     dsimp only
     rw [TV_len,TV_len,Int.toNat_natCast]
     by_cases ej:j=a.ty.length
     ·rw [if_neg (dneg (by omega))]
      rw [ej,List.take_length,e1,List.take_length] at hall
      refine lp_ind (fun x=>a.tr.length - x.1.2.2.2.1.toNat) (fun x=>∃ j:Nat,j≤a.tr.length∧x=(((),(),false,(j:Int),()),(TV a.ty,RV a.tr,RV a.lp,S a.ft,a.v,()),(TV b.ty,RV b.tr,RV b.lp,S b.ft,b.v,()),())∧a.tr.take j=b.tr.take j) ?_ ⟨0,by omega,rfl,rfl⟩
      rintro x ⟨i,hi,rfl,hall2⟩ k2 hk2
      unfold Lq22_1
      dsimp only
      rw [RV_len,RV_len,Int.toNat_natCast]
      by_cases ei:i=a.tr.length
      ·rw [if_neg (dneg (by omega))]
       rw [ei,List.take_length,e2,List.take_length] at hall2
       refine qSame12 a.lp b.lp h3 ?_
       have:sameZ a b=(a.lp == b.lp):=by unfold sameZ; rw [hall,hall2,e3,e4]; simp
       rw [this] at h; exact h
      ·have h1:i < a.tr.length:=by omega
       have h2:i < b.tr.length:=by omega
       rw [if_pos (decide_eq_true (by omega)),if_pos (by omega)]
       refine asR1 h1 (asR2 h1 ?_)
       rw [if_pos (by omega)]
       refine asR1 h2 (asR2 h2 ?_)
       have e1:w64 ((i:Int)+1)=((i+1:Nat):Int):=by rw [w64_in (by omega) (by omega)]; omega
       simp only [e1]
       by_cases ee:a.tr[i]=b.tr[i]
       ·rw [if_neg (by rw [ee]; simp)]
        refine hk2 _ ⟨i+1,by omega,rfl,?_⟩ ?_
        ·rw [List.take_succ_eq_append_getElem h1,List.take_succ_eq_append_getElem h2,hall2,ee]
        ·show a.tr.length - ((i+1:Nat):Int).toNat < a.tr.length - ((i:Nat):Int).toNat
         omega
       ·rw [if_pos (by
         simp only [Bool.not_eq_true',Bool.and_true,Bool.and_eq_false_iff,beq_eq_false_iff_ne,ne_eq]
         by_cases q:(a.tr[i]).1=(b.tr[i]).1
         ·exact .inr fun q2=>ee (Prod.ext q q2)
         ·exact .inl q)]
        refine no (.inr (.inl fun hh=>?_))
        have:=congrArg (fun l=>l[i]?) hh
        simp only [List.getElem?_eq_getElem h1,List.getElem?_eq_getElem h2] at this
        exact ee (Option.some.inj this)
     ·have h1:j < a.ty.length:=by omega
      have h2:j < b.ty.length:=by omega
      rw [if_pos (decide_eq_true (by omega)),if_pos (by omega)]
      refine asT1 h1 (asT2 h1 (asT3 h1 ?_))
      rw [if_pos (by omega)]
      refine asT1 h2 (asT2 h2 (asT3 h2 ?_))
      have e1:w64 ((j:Int)+1)=((j+1:Nat):Int):=by rw [w64_in (by omega) (by omega)]; omega
      simp only [lt,e1,S_toList]
      by_cases ee:a.ty[j]=b.ty[j]
      ·rw [if_neg (by rw [ee]; simp)]
       refine hk _ ⟨j+1,by omega,rfl,?_⟩ ?_
       ·rw [List.take_succ_eq_append_getElem h1,List.take_succ_eq_append_getElem h2,hall,ee]
       ·show a.ty.length - ((j+1:Nat):Int).toNat < a.ty.length - ((j:Nat):Int).toNat
        omega
      ·have:(!((a.ty[j]).1 == (b.ty[j]).1 && ((a.ty[j]).2.1 == (b.ty[j]).2.1 && ((a.ty[j]).2.2 == (b.ty[j]).2.2 && true))))=true:=by
        rw [Bool.not_eq_true']
        cases hh:((a.ty[j]).1 == (b.ty[j]).1 && ((a.ty[j]).2.1 == (b.ty[j]).2.1 && ((a.ty[j]).2.2 == (b.ty[j]).2.2 && true)))
        ·rfl
        ·exfalso
         simp only [Bool.and_eq_true,beq_iff_eq,and_true] at hh
         exact ee (Prod.ext hh.1 (Prod.ext hh.2.1 hh.2.2))
       rw [if_pos this]
       refine no (.inl fun hh=>?_)
       have:=congrArg (fun l=>l[j]?) hh
       simp only [List.getElem?_eq_getElem h1,List.getElem?_eq_getElem h2] at this
       exact ee (Option.some.inj this)
    ·rw [if_pos (by simpa using e4)]; exact no (.inr (.inr (.inr e4)))
   ·rw [if_pos (by simpa using e3)]; exact no (.inr (.inr (.inl e3)))
  ·rw [if_pos (by simp; omega)]; exact no (.inr (.inl fun hh=>e2 (by rw [hh])))
 ·rw [if_pos (by simp; omega)]; exact no (.inl fun hh=>e1 (by rw [hh]))
end Go.Proofs.YtbnpclndiichcaaGreatDoor
end
section
set_option linter.unusedVariables false
set_option linter.unusedSimpArgs false
namespace Go.Proofs.YtbnpclndiichcaaGreatDoor
open Go Go.Proofs.YtbnpclndiichcaaGreatDoor.Eng Go.Proofs.YtbnpclndiichcaaGreatDoor.Pl
theorem rletter (c:UInt8) {K} (h:K (letC c)):Xq12 (c.toNat:Int) K:=by
 unfold Xq12 Yq12
 simp only [decide_eq_true_eq,ge_iff_le]
 unfold letC at h
 repeat' (first | refine ifT (by omega) ?_ | refine ifF (by omega) ?_ | refine ifC (fun _=>?_) (fun _=>?_))
 all_goals (refine cast (congrArg K ?_) h; apply Bool.eq_iff_iff.2; simp; omega)
theorem rcut (l:List UInt8) (c:UInt8) (hl:l.length≤140737488351232) {K} (h:K (S (splitL c l).1) (S (splitL c l).2.1) (splitL c l).2.2):Xq29 (S l) (S [c]) K:=by
 unfold Xq29 Yq29
 have hn:=nl_le (· == c) l
 refine lp_at (fun j:Nat=>((S l,S [c],ByteArray.mk #[],ByteArray.mk #[],false,(j:Int),()),())) (nl (· == c) l) rfl fun j hj k hk=>?_
 unfold Lq29_0
 unfold splitL at h
 simp only [decide_eq_true_eq,S_size,S_extract,S_toList,List.length_singleton]
 rw [w64_in (n:=(j:Int)+((1:Nat):Int)) (by omega) (by omega)]
 by_cases hjl:j < l.length
 ·refine ifT (by omega) (ifT (by simp) (ifT (by omega) (ifT (by omega) ?_)))
  have e1:Int.toNat ((j:Int)+((1:Nat):Int))=j+1:=by omega
  have e2:(l.drop j).take (j+1 - j)=[l[j]]:=by
   rw [List.drop_eq_getElem_cons hjl,show j+1 - j=1 by omega]; rfl
  simp only [lt,e1,Int.toNat_natCast,e2,List.drop_zero,Nat.sub_zero,take_all]
  by_cases hlt:j < nl (· == c) l
  ·have hg:=(nl_spec (· == c) l j hjl).1 hlt
   refine ifF (by simpa using hg) ?_
   rw [w64_in (n:=(j:Int)+1) (by omega) (by omega)]
   exact hk hlt
  ·have hg:=(nl_spec (· == c) l j hjl).2 (by omega)
   have ej:nl (· == c) l=j:=by omega
   rw [ej,if_pos hjl] at h
   refine ifT (by simpa using hg) (ifT (by omega) (ifT (by omega) (ifT (by omega) (ifT (by omega) h))))
 ·rw [if_neg (by omega)] at h
  exact ifF (by omega) h
theorem rname (l:List UInt8) (hl:l.length≤140737488351232) {K} (h:K (S (nameP l).1) (S (nameP l).2.2) (nameP l).2.1):Xq1y (S l) K:=by
 unfold Xq1y Yq1y
 have hn:=nl_le (fun c=>!letC c) l
 have key:(l.head? = some 60→False)→Eng.lp (Lq1y_0 Xq12 Xq1s K) ((S l,ByteArray.mk #[],ByteArray.mk #[],false,(0:Int),()),()):=by
  intro h60
  unfold nameP at h
  rw [if_neg h60] at h
  refine lp_at (fun j:Nat=>((S l,ByteArray.mk #[],ByteArray.mk #[],false,(j:Int),()),())) (nl (fun c=>!letC c) l) rfl fun j hj k hk=>?_
  unfold Lq1y_0
  simp only [decide_eq_true_eq]
  by_cases hjl:j < l.length
  ·simp only [S_size,S_extract,Int.toNat_natCast,bAt_get l j hjl,List.drop_zero,Nat.sub_zero,take_all]
   refine ifT (by omega) (ifT (by omega) (rletter _ ?_))
   by_cases hlt:j < nl (fun c=>!letC c) l
   ·have hg:=(nl_spec (fun c=>!letC c) l j hjl).1 hlt
    refine ifT (by simpa using hg) ?_
    rw [w64_in (by omega) (by omega)]
    exact hk hlt
   ·have hg:=(nl_spec (fun c=>!letC c) l j hjl).2 (by omega)
    have ej:nl (fun c=>!letC c) l=j:=by omega
    rw [ej] at h
    refine ifF (by simpa using hg) (ifT (by omega) (ifT (by omega) (rabbr _ (by rw [List.length_take]; omega) (ifT (by omega) (ifT (by omega) (ifT (by omega) (ifT (by omega) h)))))))
  ·simp only [S_size,S_extract,Int.toNat_natCast,List.drop_zero,Nat.sub_zero,take_all]
   have ej:nl (fun c=>!letC c) l=j:=by omega
   rw [ej] at h
   exact ifF (by omega) (ifT (by omega) (ifT (by omega) (rabbr _ (by rw [List.length_take]; omega) (ifT (by omega) (ifT (by omega) (ifT (by omega) (ifT (by omega) h)))))))
 cases l with
 | nil=>exact ifF (by decide) (key (by simp))
 | cons c r =>
  have hs:(↑(ByteArray.size (S (c :: r))):Int)=(r.length:Int)+1:=by rw [S_size]; rfl
  rw [drop1,bAt0,hs]
  simp only [decide_eq_true_eq,gt_iff_lt,beq_iff_eq]
  simp only [List.length_cons] at hl
  refine ifT (by omega) (ifT (by omega) (ifC (fun e=>?_) fun e=>?_))
  ·have:c=60:=u8_of e
   subst this
   have e0:nameP (60 :: r)=((splitL 62 r).1,(splitL 62 r).2.2 && abbrL (splitL 62 r).1,(splitL 62 r).2.1):=by
    exact if_pos rfl
   rw [e0] at h
   have hle:(splitL 62 r).1.length≤r.length:=by
    unfold splitL; split
    ·rw [List.length_take]; omega
    ·exact Nat.le_refl _
   refine ifT (by omega) (ifT (by omega) (rcut r 62 (by omega) (rabbr _ (by omega) ?_)))
   by_cases e2:(splitL 62 r).2.2=true
   ·rw [e2,Bool.true_and] at h
    exact ifT e2 h
   ·rw [Bool.eq_false_iff.2 e2,Bool.false_and] at h
    exact ifF e2 h
  ·exact key fun h=>e (by simp at h; rw [h]; rfl)
theorem rchecked (f:Ft) (h1:f.sa.length≤140737488351232) (h2:f.wa.length≤140737488351232) {K} (h:K (tupFt f.chk.1) f.chk.2):Xq0n (tupFt f) K:=by
 unfold Xq0n Yq0n
 refine rfootRight f h1 h2 ?_
 unfold Ft.chk at h
 by_cases e:f.ok=true
 ·rw [if_pos e] at h
  exact ifF (by simp [e]) h
 ·rw [if_neg e] at h
  exact ifT (by simpa using e) h
theorem time_same (l:List UInt8) (h:¬ (timeL l).2.2=true):(timeL l).2.1=l:=by
 obtain ⟨j,_,e,_,_,_,h0⟩:=time_drop l
 rw [e,(h0 (by simpa using h)).2]; rfl
end Go.Proofs.YtbnpclndiichcaaGreatDoor
end
section
set_option linter.unusedVariables false
set_option linter.unusedSimpArgs false
namespace Go.Proofs.YtbnpclndiichcaaGreatDoor
open Go Go.Proofs.YtbnpclndiichcaaGreatDoor.Eng Go.Proofs.YtbnpclndiichcaaGreatDoor.Pl
theorem rule_cons (r:List UInt8):ruleP (44 :: r)=⟨(parseL r).2.2.2.2.2.2 && true,(parseL r).2.2.2.2.2.1,⟨(parseL r).1,(parseL r).2.1,(parseL r).2.2.1,(parseL r).2.2.2.1,(parseL r).2.2.2.2.1⟩⟩:=rfl
theorem rule_no (l:List UInt8) (h:l.head?≠some 44):(ruleP l).ok=false:=by
 unfold ruleP cutP
 rw [if_neg h]
 simp
theorem parse_len (l:List UInt8):(parseL l).2.2.2.2.2.1.length≤l.length:=by
 cases e:(parseL l).2.2.2.2.2.2
 ·rw [parse_bad _ e]; exact Nat.le_refl _
 ·obtain ⟨_,j,_,h1,h2⟩:=parse_good _ e
  rw [h2,List.length_drop]; omega
theorem rfootRules (so:Int) (sa:List UInt8) (wo:Int) (wa:List UInt8) (l:List UInt8) (hl:l.length≤140737488351232) (h1:sa.length≤140737488351232) (h2:wa.length≤140737488351232) {K:Int×Bool×ByteArray×Int×Bool×ByteArray×Bool×Int×Int×Int×Int×Int×Int×Int×Int×Int×Int×Unit→Bool→Prop}
  (hz:((ruleP l).ok=true→(ruleP (ruleP l).rest).ok=true→(ruleP (ruleP l).rest).rest=[]→False)→K ((0:Int),false,ByteArray.mk #[],(0:Int),false,ByteArray.mk #[],false,(0:Int),(0:Int),(0:Int),(0:Int),(0:Int),(0:Int),(0:Int),(0:Int),(0:Int),(0:Int),()) false)
  (hk:(ruleP l).ok=true→(ruleP (ruleP l).rest).ok=true→(ruleP (ruleP l).rest).rest=[]→K (tupFt (Ft.chk ⟨so,false,sa,wo,true,wa,true,(ruleP l).r,(ruleP (ruleP l).rest).r⟩).1) (Ft.chk ⟨so,false,sa,wo,true,wa,true,(ruleP l).r,(ruleP (ruleP l).rest).r⟩).2) :
  (if ((↑(ByteArray.size (S l)):Int) == (0:Int))=true then K ((0:Int),false,ByteArray.mk #[],(0:Int),false,ByteArray.mk #[],false,(0:Int),(0:Int),(0:Int),(0:Int),(0:Int),(0:Int),(0:Int),(0:Int),(0:Int),(0:Int),()) false else if (0:Int)≤(0:Int)∧(0:Int) < (↑(ByteArray.size (S l)):Int) then
   (if (Eng.bAt (S l) (0:Nat) != (44:Int))=true then K ((0:Int),false,ByteArray.mk #[],(0:Int),false,ByteArray.mk #[],false,(0:Int),(0:Int),(0:Int),(0:Int),(0:Int),(0:Int),(0:Int),(0:Int),(0:Int),(0:Int),()) false else if (0:Int)≤(↑(ByteArray.size (S l)):Int)∧(↑(ByteArray.size (S l)):Int)≤(↑(ByteArray.size (S l)):Int) then
    (if (0:Int)≤(1:Int)∧(1:Int)≤(↑(ByteArray.size (S l)):Int) then
     Xq19 (ByteArray.extract (S l) (1:Nat) (Int.toNat (↑(ByteArray.size (S l)):Int))) (fun r16 r17 r18 =>
      (if (!r18)=true then K ((0:Int),false,ByteArray.mk #[],(0:Int),false,ByteArray.mk #[],false,(0:Int),(0:Int),(0:Int),(0:Int),(0:Int),(0:Int),(0:Int),(0:Int),(0:Int),(0:Int),()) false else if ((↑(ByteArray.size r17):Int) == (0:Int))=true then K ((0:Int),false,ByteArray.mk #[],(0:Int),false,ByteArray.mk #[],false,(0:Int),(0:Int),(0:Int),(0:Int),(0:Int),(0:Int),(0:Int),(0:Int),(0:Int),(0:Int),()) false else if (0:Int)≤(0:Int)∧(0:Int) < (↑(ByteArray.size r17):Int) then
       (if (Eng.bAt r17 (0:Nat) != (44:Int))=true then K ((0:Int),false,ByteArray.mk #[],(0:Int),false,ByteArray.mk #[],false,(0:Int),(0:Int),(0:Int),(0:Int),(0:Int),(0:Int),(0:Int),(0:Int),(0:Int),(0:Int),()) false else if (0:Int)≤(↑(ByteArray.size r17):Int)∧(↑(ByteArray.size r17):Int)≤(↑(ByteArray.size r17):Int) then
        (if (0:Int)≤(1:Int)∧(1:Int)≤(↑(ByteArray.size r17):Int) then
         Xq19 (ByteArray.extract r17 (1:Nat) (Int.toNat (↑(ByteArray.size r17):Int))) (fun r19 r20 r21 =>
          (if (!r21)=true then K ((0:Int),false,ByteArray.mk #[],(0:Int),false,ByteArray.mk #[],false,(0:Int),(0:Int),(0:Int),(0:Int),(0:Int),(0:Int),(0:Int),(0:Int),(0:Int),(0:Int),()) false else if (!ByteArray.toList r20 == ByteArray.toList (ByteArray.mk #[]))=true then K ((0:Int),false,ByteArray.mk #[],(0:Int),false,ByteArray.mk #[],false,(0:Int),(0:Int),(0:Int),(0:Int),(0:Int),(0:Int),(0:Int),(0:Int),(0:Int),(0:Int),()) false else
           Xq0n (so,false,S sa,wo,true,S wa,true,r16.1,r16.2.1,r16.2.2.1,r16.2.2.2.1,r16.2.2.2.2.1,r19) (fun r22 r23=>K r22 r23)))
         else False) else False) else False))
     else False) else False) else False):=by
 cases l with
 | nil=>exact ifT rfl (hz fun h=>by rw [rule_no [] (by simp)] at h; cases h)
 | cons c r =>
  have hs:(↑(ByteArray.size (S (c :: r))):Int)=(r.length:Int)+1:=by rw [S_size]; rfl
  rw [drop1,bAt0,hs]
  simp only [List.length_cons] at hl
  simp only [beq_iff_eq,bne_iff_ne,ne_eq]
  refine ifF (by omega) (ifT (by omega) (ifC (fun e=>hz fun h=>?_) fun e=>?_))
  ·rw [rule_no (c :: r) (fun h=>by simp at h; subst h; exact e rfl)] at h; cases h
  ·have:c=44:=u8_of (d:=44) (Classical.not_not.1 e)
   subst this
   rw [rule_cons] at hz hk
   have hp:=parse_len r
   refine ifT (by omega) (ifT (by omega) (rruleParse r (by omega) ?_))
   generalize parseL r=q at *
   obtain ⟨q1,q2,q3,q4,q5,q6,q7⟩:=q
   simp only [Bool.and_true] at hz hk hp ⊢
   cases q7
   ·exact ifT rfl (hz fun h=>by cases h)
   ·refine ifF (by simp) ?_
    cases q6 with
    | nil=>exact ifT rfl (hz fun _ h=>by rw [rule_no [] (by simp)] at h; cases h)
    | cons d t =>
     have hs:(↑(ByteArray.size (S (d :: t))):Int)=(t.length:Int)+1:=by rw [S_size]; rfl
     rw [drop1,bAt0,hs]
     simp only [List.length_cons] at hp
     refine ifF (by omega) (ifT (by omega) (ifC (fun e=>hz fun _ h=>?_) fun e=>?_))
     ·rw [rule_no (d :: t) (fun h=>by simp at h; subst h; exact e rfl)] at h; cases h
     ·have:d=44:=u8_of (d:=44) (Classical.not_not.1 e)
      subst this
      rw [rule_cons] at hz hk
      refine ifT (by omega) (ifT (by omega) (rruleParse t (by omega) ?_))
      generalize parseL t=p at *
      obtain ⟨p1,p2,p3,p4,p5,p6,p7⟩:=p
      simp only [Bool.and_true] at hz hk ⊢
      cases p7
      ·exact ifT rfl (hz fun _ h=>by cases h)
      ·refine ifF (by simp) ?_
       rw [S_toList]
       by_cases e6:p6=[]
       ·subst e6
        have e0:(ByteArray.mk #[]).toList=[]:=S_toList []
        rw [e0]
        refine ifF (by simp) ?_
        exact rchecked ⟨so,false,sa,wo,true,wa,true,⟨q1,q2,q3,q4,q5⟩,⟨p1,p2,p3,p4,p5⟩⟩ h1 h2 (hk (by trivial) (by trivial) (by trivial))
       ·have e0:(ByteArray.mk #[]).toList=[]:=S_toList []
        rw [e0]
        exact ifT (by simp [e6]) (hz fun _ _ h=>e6 h)
theorem rfootParse (l:List UInt8) (hl:l.length≤140737488351232) {K} (h:K (tupFt (Ft.parse l).1) (Ft.parse l).2):Xq1f (S l) K:=by
 unfold Xq1f Yq1f
 have hn:=name_len l
 have ht:=time_bd (nameP l).2.2
 refine rname l hl (rtime _ (by omega) ?_)
 rw [w64_in (n:=0 - (timeL (nameP l).2.2).1) (by omega) (by omega),Int.zero_sub]
 unfold Ft.parse at h
 have hu:usualP l=⟨(nameP l).2.1 && (timeL (nameP l).2.2).2.2,(timeL (nameP l).2.2).2.1,-(timeL (nameP l).2.2).1,(nameP l).1⟩:=rfl
 rw [hu] at h
 simp only at h
 by_cases e1:(nameP l).2.1=true
 ·refine ifF (by simp [e1]) ?_
  by_cases e2:(timeL (nameP l).2.2).2.2=true
  ·rw [if_pos (by simp [e1,e2])] at h
   refine ifF (by simp [e2]) ?_
   clear hu
   generalize (timeL (nameP l).2.2).1=n at h ht ⊢
   generalize (timeL (nameP l).2.2).2.1=rest at h ht ⊢
   have e0:(ByteArray.mk #[]).toList=[]:=S_toList []
   by_cases e3:rest=[]
   ·rw [if_pos e3] at h
    refine ifT (by rw [S_toList,e0]; simp [e3]) (rchecked ⟨-n,false,(nameP l).1,0,false,[],false,.z,.z⟩ (by simp only; omega) (by simp) h)
   ·rw [if_neg e3] at h
    have hn2:=name_len rest
    have ht2:=time_bd (nameP rest).2.2
    refine ifF (by rw [S_toList,e0]; simp [e3]) (rname rest (by omega) ?_)
    rw [w64_in (n:=-n+3600) (by omega) (by omega)]
    refine rtime _ (by omega) ?_
    by_cases e5:(timeL (nameP rest).2.2).2.2=true
    ·have hs:summerP (-n) rest=⟨(nameP rest).2.1,(timeL (nameP rest).2.2).2.1,-(timeL (nameP rest).2.2).1,(nameP rest).1⟩:=if_pos e5
     rw [hs] at h
     simp only at h
     refine ifT e5 ?_
     by_cases e6:(nameP rest).2.1=true
     ·rw [if_pos e6] at h
      rw [w64_in (n:=0 - (timeL (nameP rest).2.2).1) (by omega) (by omega),Int.zero_sub]
      refine ifF (by simp [e6]) (rfootRules (-n) (nameP l).1 _ (nameP rest).1 _ (by omega) (by omega) (by omega) (fun hz=>?_) fun h1 h2 h3=>?_)
      ·by_cases c1:(ruleP (timeL (nameP rest).2.2).2.1).ok=true
       ·rw [if_pos c1] at h
        by_cases c2:(ruleP (ruleP (timeL (nameP rest).2.2).2.1).rest).ok=true
        ·rw [if_pos c2,if_neg (fun c3=>hz c1 c2 c3)] at h; exact h
        ·rw [if_neg c2] at h; exact h
       ·rw [if_neg c1] at h; exact h
      ·rw [if_pos h1,if_pos h2,if_pos h3] at h; exact h
     ·rw [if_neg e6] at h
      exact ifT (by simpa using e6) h
    ·have hs:summerP (-n) rest=⟨(nameP rest).2.1,(nameP rest).2.2,-n+3600,(nameP rest).1⟩:=if_neg e5
     rw [hs] at h
     simp only at h
     have hsame:=time_same _ e5
     rw [hsame]
     refine ifF e5 ?_
     by_cases e6:(nameP rest).2.1=true
     ·rw [if_pos e6] at h
      refine ifF (by simp [e6]) (rfootRules (-n) (nameP l).1 _ (nameP rest).1 _ (by omega) (by omega) (by omega) (fun hz=>?_) fun h1 h2 h3=>?_)
      ·by_cases c1:(ruleP (nameP rest).2.2).ok=true
       ·rw [if_pos c1] at h
        by_cases c2:(ruleP (ruleP (nameP rest).2.2).rest).ok=true
        ·rw [if_pos c2,if_neg (fun c3=>hz c1 c2 c3)] at h; exact h
        ·rw [if_neg c2] at h; exact h
       ·rw [if_neg c1] at h; exact h
      ·rw [if_pos h1,if_pos h2,if_pos h3] at h; exact h
     ·rw [if_neg e6] at h
      exact ifT (by simpa using e6) h
  ·rw [if_neg (by simp [e2])] at h
   exact ifT (by simpa using e2) h
 ·rw [if_neg (by simp [e1])] at h
  exact ifT (by simpa using e1) h
end Go.Proofs.YtbnpclndiichcaaGreatDoor
end
section
set_option linter.unusedVariables false
set_option linter.unusedSimpArgs false
namespace Go.Proofs.YtbnpclndiichcaaGreatDoor
open Go Go.Proofs.YtbnpclndiichcaaGreatDoor.Eng Go.Proofs.YtbnpclndiichcaaGreatDoor.Pl
set_option maxRecDepth 100000
set_option maxHeartbeats 2000000
theorem room (n k:Nat) (hn:n≤1000000000) (hk:k≤64):roomOk n k=true:=by
 unfold roomOk; rw [decide_eq_true_eq]
 have:(n+1000) * k≤1000001000 * 64:=Nat.mul_le_mul (by omega) hk
 omega
end Go.Proofs.YtbnpclndiichcaaGreatDoor
end
section
set_option linter.unusedVariables false
set_option linter.unusedSimpArgs false
namespace Go.Proofs.YtbnpclndiichcaaGreatDoor
open Go Go.Proofs.YtbnpclndiichcaaGreatDoor.Eng Go.Proofs.YtbnpclndiichcaaGreatDoor.Pl
set_option maxRecDepth 100000
set_option maxHeartbeats 4000000
theorem qSub (a b:Int) (ha:i64r a) (hb:i64r b) {K:Int→Bool→Prop} (h1:i64r (a - b)→K (a - b) true) (h2:¬ i64r (a - b)→K 0 false):Xq27 a b K:=by
 unfold Xq27 Yq27
 unfold i64r at *
 simp only [decide_eq_true_eq]
 by_cases b0:b < 0
 ·have w1:w64 (9223372036854775807+b)=9223372036854775807+b:=w64_in (by omega) (by omega)
  rw [if_pos b0,w1,if_neg (show ¬ b > 0 by omega)]
  by_cases c:a > 9223372036854775807+b
  ·rw [if_pos c]; exact h2 (by omega)
  ·rw [if_neg c,w64_in (by omega) (by omega)]; exact h1 (by omega)
 ·rw [if_neg b0]
  by_cases b1:b > 0
  ·have w1:w64 (-9223372036854775808+b)=-9223372036854775808+b:=w64_in (by omega) (by omega)
   rw [if_pos b1,w1]
   by_cases c:a < -9223372036854775808+b
   ·rw [if_pos c]; exact h2 (by omega)
   ·rw [if_neg c,w64_in (by omega) (by omega)]; exact h1 (by omega)
  ·rw [if_neg b1,w64_in (by omega) (by omega)]; exact h1 (by omega)
def prevC (l:List Rec) (j:Nat):Int:=if j=0 then 0 else (l.getD (j - 1) (0,0)).2
theorem qAhead (l:List Rec) (j:Nat) (hj:j≤l.length) (hl:l.length≤100000) {K:Int→Prop} (h:K (prevC l j)):Xq1g (RV l) (j:Int) K:=by
 unfold Xq1g Yq1g
 unfold prevC at h
 rw [RV_len]
 by_cases j0:j=0
 ·rw [if_pos j0] at h
  rw [if_pos (by simp [j0])]; exact h
 ·rw [if_neg j0,getD_at _ _ _ (by omega)] at h
  have e1:w64 ((j:Int) - 1)=((j - 1:Nat):Int):=by rw [w64_in (by omega) (by omega)]; omega
  rw [if_neg (by simpa using j0),e1,if_pos (by omega),Int.toNat_natCast]
  exact asR2 (by omega) h
theorem asR1e {l:List Rec} {i:Nat} (h:i < l.length) {F:Prop} {K:Int→Prop}:Eng.asInt .i64 (getC (RV l) i 0) F K=K (l[i]).1:=by
 have:getC (RV l) i 0=some (.c (.int .i64 (l[i]).1)):=by simp [getC,RV,eRec,V.cells,h]
 rw [this]; simp [Eng.asInt]
theorem qRecCheck (l:List Rec) (hi:recI l) (hlen:l.length≤100000) {K:Int→Int→Prop} (h:∀ n,K n (recE l)):Xq1j (RV l) K:=by
 unfold Xq1j Yq1j
 refine lp_ind (fun x=>(l.length:Nat) - x.1.2.2.2.1.toNat) (fun x=>∃ (j:Nat),j≤l.length∧x=((RV l,(0:Int),(0:Int),(j:Int),()),())∧recErr j (prevR (-2419199,0) l j) (l.drop j)=recE l∧(0 < j→0≤(prevR (-2419199,0) l j).1)) ?_ ⟨0,by omega,rfl,rfl,by omega⟩
 rintro x ⟨j,hj,rfl,hok,hps⟩ k hk
 unfold Lq1j_0
 simp only [decide_eq_true_eq,RV_len]
 by_cases e:j=l.length
 ·rw [if_neg (by omega)]
  have:recE l=0:=by rw [← hok,e,List.drop_length]; rfl
  rw [this] at h
  exact h _
 ·have hj':j < l.length:=by omega
  obtain ⟨hc1,hc2⟩:=hi l[j] (List.getElem_mem hj')
  have hx:0≤(j:Int)∧(j:Int) < (l.length:Int):=by omega
  rw [Int.toNat_natCast,if_pos (by omega),if_pos hx]
  refine asR2 hj' (qAhead l j hj hlen ?_)
  rw [if_pos hx]
  refine asR2 hj' (qAhead l j hj hlen ?_)
  have hbp:(prevR (-2419199,0) l j).2=prevC l j:=by
   unfold prevR prevC; by_cases j0:j=0
   ·rw [if_pos j0,if_pos j0]
   ·rw [if_neg j0,if_neg j0]
  have hb0:0 < j→(prevR (-2419199,0) l j).1=(l[j - 1]'(by omega)).1:=fun h0=>by
   unfold prevR; rw [if_neg (by omega),getD_at _ _ _ (by omega)]
  have hbi:i64r (prevR (-2419199,0) l j).2∧(0 < j→i64r (prevR (-2419199,0) l j).1):=by
   unfold prevR
   by_cases j0:j=0
   ·rw [if_pos j0]; exact ⟨by unfold i64r; decide,by omega⟩
   ·rw [if_neg j0,getD_at _ _ _ (by omega)]
    have:=hi _ (List.getElem_mem (show j - 1 < l.length by omega))
    exact ⟨this.2,fun _=>this.1⟩
  have hnx:prevR (-2419199,0) l (j+1)=l[j]:=by
   unfold prevR; rw [if_neg (by omega),Nat.add_sub_cancel,getD_at _ _ _ hj']
  have hd:l.drop j=l[j] :: l.drop (j+1):=List.drop_eq_getElem_cons hj'
  rw [hd,recErr] at hok
  have hre:(l.drop (j+1)).isEmpty=decide (j+1=l.length):=by
   rw [Bool.eq_iff_iff,List.isEmpty_iff,List.drop_eq_nil_iff,decide_eq_true_eq]; omega
  have hre':∀ s:Int,((decide (s=0) && (l.drop (j+1)).isEmpty)=true)↔(s=0∧j+1=l.length):=fun s=>by
   rw [hre,Bool.and_eq_true,decide_eq_true_eq,decide_eq_true_eq]
  have hre'':∀ s:Int,((decide (s=0) && (l.drop (j+1)).isEmpty)=false)↔¬ (s=0∧j+1=l.length):=fun s=>by
   rw [← hre' s,Bool.not_eq_true]
  simp only [hre',hre''] at hok
  rw [← hnx] at hok
  have e1:w64 ((j:Int)+1)=((j+1:Nat):Int):=by rw [w64_in (by omega) (by omega)]; omega
  have e2:w64 ((l.length:Int) - 1)=(l.length:Int) - 1:=w64_in (by omega) (by omega)
  rw [← hbp]
  have hcc:prevR (-2419199,0) l (j+1)=l[j]:=hnx
  generalize prevR (-2419199,0) l j=b at *
  have c8:200 < j→K (j:Int) 8:=fun q=>by rw [if_pos q] at hok; rw [← hok] at h; exact h _
  have c9:¬ 200 < j∧(l[j]).1 < 0→K (j:Int) 9:=fun q=>by rw [hcc,if_neg q.1,if_pos q.2] at hok; rw [← hok] at h; exact h _
  have c6:¬ 200 < j∧¬ (l[j]).1 < 0∧¬ ((l[j]).2 - b.2=0∧j+1=l.length)∧(l[j]).2 - b.2≠1∧(l[j]).2 - b.2≠-1→K (j:Int) 6:=fun q=>by
   rw [hcc,if_neg q.1,if_neg q.2.1,if_pos q.2.2] at hok; rw [← hok] at h; exact h _
  have c7:¬ 200 < j∧¬ (l[j]).1 < 0∧(((l[j]).2 - b.2=0∧j+1=l.length)∨(l[j]).2 - b.2=1∨(l[j]).2 - b.2=-1)∧0 < j∧((((l[j]).2 - b.2=0∧j+1=l.length)∧(l[j]).1 - b.1 < 0)∨(¬ ((l[j]).2 - b.2=0∧j+1=l.length)∧(l[j]).1 - b.1 < 2419199))→K (j:Int) 7:=fun q=>by
   obtain ⟨q1,q2,q3,q4,q5⟩:=q
   rw [hcc,if_neg q1,if_neg q2,if_neg (by omega),if_pos] at hok
   ·rw [← hok] at h; exact h _
   ·refine ⟨q4,?_⟩
    rcases q5 with q5 | q5
    ·rw [if_pos q5.1]; exact q5.2
    ·rw [if_neg q5.1]; exact q5.2
  have good:(j≤200∧0≤(l[j]).1∧(((l[j]).2 - b.2=0∧j+1=l.length)∨(l[j]).2 - b.2=1∨(l[j]).2 - b.2=-1)∧(j=0∨(((l[j]).2 - b.2=0∧j+1=l.length)∧(l[j]).1 - b.1≥0)∨(¬ ((l[j]).2 - b.2=0∧j+1=l.length)∧(l[j]).1 - b.1≥2419199))) →
    k ((RV l,(0:Int),(0:Int),((j+1:Nat):Int),()),()):=fun hg=>by
   obtain ⟨q1,q2,q3,q4⟩:=hg
   rw [if_neg (by omega),hcc,if_neg (by omega),if_neg (by omega),if_neg] at hok
   ·refine hk _ ⟨j+1,by omega,rfl,by rw [hcc]; exact hok,fun _=>by rw [hcc]; exact q2⟩ ?_
    show l.length - ((j+1:Nat):Int).toNat < l.length - ((j:Nat):Int).toNat
    omega
   ·rintro ⟨r1,r2⟩
    rcases q4 with q4 | q4 | q4
    ·omega
    ·rw [if_pos q4.1] at r2; omega
    ·rw [if_neg q4.1] at r2; omega
  clear hok hk h hd hre hre' hre'' hnx hcc
  rw [e1,e2]
  have hx1:=hx.1
  have hx2:=hx.2
  simp only [hx1,hx2,and_self,if_true,asR1e hj']
  have ew:0 < j→0≤(l[j]).1→w64 ((l[j]).1 - b.1)=(l[j]).1 - b.1:=fun h1 h2=>by
   have:=hps h1
   have:=hbi.2 h1
   unfold i64r at *
   exact w64_in (by omega) (by omega)
  by_cases j0:j=0
  ·have j1:¬ ((j:Int) > 0):=by omega
   simp only [j1,if_false]
   refine qSub _ b.2 hc2 hbi.1 (fun hf=>?_) fun hf=>?_
   ·simp only [if_true,beq_iff_eq,Bool.not_eq_true',beq_eq_false_iff_ne,ne_eq,bne_iff_ne,not_true,if_false,Bool.not_true,Bool.false_eq_true]
    repeat' split
    all_goals first
     |(refine c8 ?_; omega)
     |(refine c9 ?_; omega)
     |(refine c6 ?_; omega)
     |(refine good ?_; omega)
   ·simp only [if_true,if_false,Bool.not_false,Bool.false_eq_true,beq_iff_eq,Bool.not_eq_true',beq_eq_false_iff_ne,ne_eq]
    unfold i64r at hf
    repeat' split
    all_goals first
     |(refine c8 ?_; omega)
     |(refine c9 ?_; omega)
     |(refine c6 ?_; omega)
     |(exfalso; unfold i64r at *; omega)
  ·have j1:(j:Int) > 0:=by omega
   have e3:w64 ((j:Int) - 1)=((j - 1:Nat):Int):=by rw [w64_in (by omega) (by omega)]; omega
   have x1:(0:Int)≤((j - 1:Nat):Int):=by omega
   have x2:((j - 1:Nat):Int) < (l.length:Int):=by omega
   simp only [j1,if_true,e3,x1,x2,and_self,Int.toNat_natCast,asR1e (show j - 1 < l.length by omega),← hb0 (show 0 < j by omega)]
   refine qSub _ b.2 hc2 hbi.1 (fun hf=>?_) fun hf=>?_
   ·simp only [if_true,beq_iff_eq,Bool.not_eq_true',beq_eq_false_iff_ne,ne_eq,bne_iff_ne,not_true,if_false,Bool.not_true,Bool.false_eq_true]
    repeat' split
    all_goals first
     |(refine c8 ?_; omega)
     |(refine c9 ?_; omega)
     |(refine c6 ?_; omega)
     |(refine c7 ?_; omega)
     |(refine good ?_; omega)
     |(refine c7 ?_; rw [ew (by omega) (by omega)] at *; omega)
     |(refine good ?_; rw [ew (by omega) (by omega)] at *; omega)
   ·simp only [if_true,if_false,Bool.not_false,Bool.false_eq_true,beq_iff_eq,Bool.not_eq_true',beq_eq_false_iff_ne,ne_eq]
    unfold i64r at hf
    repeat' split
    all_goals first
     |(refine c8 ?_; omega)
     |(refine c9 ?_; omega)
     |(refine c6 ?_; omega)
     |(exfalso; unfold i64r at *; omega)
end Go.Proofs.YtbnpclndiichcaaGreatDoor
end
section
set_option linter.unusedVariables false
set_option linter.unusedSimpArgs false
namespace Go.Proofs.YtbnpclndiichcaaGreatDoor
open Go Go.Proofs.YtbnpclndiichcaaGreatDoor.Eng Go.Proofs.YtbnpclndiichcaaGreatDoor.Pl
set_option maxRecDepth 100000
set_option maxHeartbeats 4000000
theorem qRecRight (l:List Rec) (hi:recI l) (hlen:l.length≤100000) {K:Bool→Prop} (h:K (recRight l)):Xq1h (RV l) K:=by
 unfold Xq1h Yq1h
 refine qRecCheck l hi hlen fun n=>?_
 have:=recErr_ok l 0 (-2419199,0)
 unfold recE
 unfold recRight at h
 cases hb:recOk 0 (-2419199,0) l
 ·rw [hb] at h this
  have:recErr 0 (-2419199,0) l≠0:=fun e=>by simpa using this.1 e
  rw [show (recErr 0 (-2419199,0) l == 0)=false by simpa using this]; exact h
 ·rw [hb] at h this
  rw [this.2 rfl]; exact h
theorem lastExp_prev (l:List Rec) (h:0 < l.length):lastExp l=((l[l.length - 1]).2 == prevC l (l.length - 1)):=by
 unfold lastExp prevC
 have g1:=getD_at l (l.length - 1) (0,0) (by omega)
 by_cases e2:l.length=1
 ·have g0:l.getD 0 (0,0)=l[l.length - 1]'(by omega):=by rw [← g1]; rw [e2]
  rw [g0,if_pos (by omega),show decide (l.length=1)=true by simpa using e2,show decide (1 < l.length)=false by simp; omega]
  simp
 ·rw [if_neg (by omega),show l.length - 1 - 1=l.length - 2 by omega,g1]
  rw [show decide (l.length=1)=false by simpa using e2,show decide (1 < l.length)=true by simp; omega]
  simp
theorem qLeaps (l:List Rec) (hl:l.length≤100000) {K:Int→Prop} (h:K ((leapsR l).length:Int)):Xq1k (RV l) K:=by
 unfold Xq1k Yq1k
 rw [RV_len]
 rw [leapsR_len] at h
 by_cases e:l.length=0
 ·rw [if_neg (dneg (by omega))]
  have:(if lastExp l=true then l.length - 1 else l.length)=l.length:=by split <;> omega
  rw [this] at h; exact h
 ·have e1:w64 ((l.length:Int) - 1)=((l.length - 1:Nat):Int):=by rw [w64_in (by omega) (by omega)]; omega
  rw [if_pos (decide_eq_true (by omega)),e1,if_pos (by omega),Int.toNat_natCast]
  refine asR2 (by omega) (qAhead l _ (by omega) hl ?_)
  rw [lastExp_prev l (by omega)] at h
  cases hb:((l[l.length - 1]'(by omega)).2 == prevC l (l.length - 1))
  ·rw [hb,if_neg (by simp)] at h
   rw [if_neg (by simp)]; exact h
  ·rw [hb,if_pos rfl] at h
   rw [if_pos rfl]; exact h
theorem qExpiry (l:List Rec) (hl:l.length≤100000) {K:Int→Bool→Prop} (h:∀ n,K n (lastExp l)):Xq11 (RV l) K:=by
 unfold Xq11 Yq11
 refine qLeaps l hl ?_
 rw [RV_len,leapsR_len]
 cases e:lastExp l
 ·rw [e] at h
  rw [if_neg (by simp:¬ (false=true)),if_pos (by simp)]
  exact h _
 ·have hne:0 < l.length:=by
   cases l with
   | nil=>simp [lastExp] at e
   | cons a r=>simp
  rw [e] at h
  rw [if_pos (rfl:true=true),if_neg (by simp; omega),if_pos (by omega),Int.toNat_natCast]
  exact asR1 (by omega) (h _)
theorem qNames (z:Zn) (hl:z.ty.length≤100000) {K:List V→Bool→Bool→Prop} (h:K (NV (z.ty.map (·.2.2))) true false):Xq1m (tupZ z) K:=by
 show Xq1m (TV z.ty,RV z.tr,RV z.lp,S z.ft,z.v,()) K
 unfold Xq1m Yq1m
 refine lp_at (fun j=>(((),(),(),(j:Int),()),(TV z.ty,RV z.tr,RV z.lp,S z.ft,z.v,()),NV ((z.ty.take j).map (·.2.2)),())) z.ty.length rfl fun j hj k hk=>?_
 unfold Lq1m_0
 dsimp only
 rw [TV_len,NV_len,List.length_map,List.length_take,Nat.min_eq_left hj,Int.toNat_natCast]
 by_cases e:j < z.ty.length
 ·have e1:w64 ((j:Int)+1)=((j+1:Nat):Int):=by rw [w64_in (by omega) (by omega)]; omega
  rw [if_pos (decide_eq_true (by omega)),if_pos (by omega)]
  refine asT3 e ?_
  rw [List.length_singleton,if_pos (room16 _ (by omega)),e1]
  have:=hk e
  rw [List.take_succ_eq_append_getElem e,List.map_append] at this
  simpa [NV] using this
 ·have:j=z.ty.length:=by omega
  subst this
  rw [if_neg (dneg (by omega))]
  rw [List.take_length]; exact h
end Go.Proofs.YtbnpclndiichcaaGreatDoor
end
section
set_option linter.unusedVariables false
set_option linter.unusedSimpArgs false
namespace Go.Proofs.YtbnpclndiichcaaGreatDoor
open Go Go.Proofs.YtbnpclndiichcaaGreatDoor.Eng Go.Proofs.YtbnpclndiichcaaGreatDoor.Pl
set_option maxRecDepth 100000
set_option maxHeartbeats 4000000
def QNI (ns:List Int):List V:=ns.map fun n=>.c (.int .i64 n)
theorem QNI_len (ns:List Int):(QNI ns).length=ns.length:=by simp [QNI]
theorem qasNI {ns:List Int} {i:Nat} (h:i < ns.length) {F:Prop} {K:Int→Prop} (hk:K ns[i]):Eng.asInt .i64 (getC (QNI ns) i 0) F K:=by
 have:getC (QNI ns) i 0=some (.c (.int .i64 ns[i])):=by simp [getC,QNI,V.cells,h]
 rw [this]; simpa [Eng.asInt] using hk
theorem S_eqB (a b:List UInt8):(ByteArray.toList (S a) == ByteArray.toList (S b))=(a == b):=by rw [S_toList,S_toList]
theorem qPool (l:List (List UInt8)) (hl:l.length≤1000) (hs:∀ s∈l,s.length≤10000) {K:ByteArray→Bool→List V→Bool→Bool→Prop}
  (h:∀ p at' o z,p.size≤100000000→(l.all abbrL && decide (poolN [] l≤256))=true→p.size=poolN [] l→K p true at' o z)
  (h':(l.all abbrL && decide (poolN [] l≤256))=false→∀ p at' o z,K p false at' o z):Xq26 (NV l) K:=by
 unfold Xq26 Yq26
 have hle:=poolN_le l [] hs
 refine lp_ind (fun x=>l.length - x.1.2.2.2.2.2.2.1.toNat) (fun x=>∃ (j:Nat) (p:List UInt8) (ns:List Int),j≤l.length∧x=((NV l,ByteArray.mk #[],(),false,S p,(),(j:Int),()),QNI ns,()) ∧
  (l.take j).all abbrL=true∧p.length+poolN (l.take j) (l.drop j)=poolN [] l∧ns.length=j∧∀ n∈ns,0≤n) ?_ ⟨0,[],[],by omega,rfl,rfl,by simp,rfl,by simp⟩
 rintro x ⟨j,p,ns,hj,rfl,hall,hp,hat,hnn⟩ k hk
 unfold Lq26_0
 dsimp only
 rw [NV_len,Int.toNat_natCast]
 by_cases e:j=l.length
 ·rw [if_neg (dneg (by omega)),S_size]
  rw [e,List.take_length] at hall
  rw [e,List.drop_length] at hp
  have hp':p.length=poolN [] l:=by simpa [poolN] using hp
  by_cases h2:(p.length:Int) > 256
  ·rw [if_pos (decide_eq_true h2)]
   exact h' (by rw [hall]; simp; omega) _ _ _ _
  ·rw [if_neg (dneg h2)]
   exact h _ _ _ _ (by rw [S_size]; omega) (by rw [hall]; simp; omega) (by rw [S_size]; exact hp')
 ·have hj':j < l.length:=by omega
  rw [if_pos (decide_eq_true (by omega)),if_pos (by omega)]
  refine asN hj' ?_
  have hsl:=hs l[j] (List.getElem_mem hj')
  refine rabbr _ (by omega) ?_
  have hd':l.drop j=l[j] :: l.drop (j+1):=List.drop_eq_getElem_cons hj'
  have ht:l.take (j+1)=l.take j++[l[j]]:=List.take_succ_eq_append_getElem hj'
  have hmem:=List.getElem_mem hj'
  rw [hd',poolN] at hp
  cases ha:abbrL l[j]
  ·rw [if_pos (show (!false)=true from rfl)]
   refine h' ?_ _ _ _ _
   have:l.all abbrL=false:=by
    rw [Bool.eq_false_iff]; intro h; rw [List.all_eq_true.1 h _ hmem] at ha; cases ha
   rw [this]; rfl
  ·rw [if_neg (by simp)]
   have hall':(l.take (j+1)).all abbrL=true:=by rw [ht,List.all_append,hall]; simp [ha]
   have e1:w64 ((j:Int)+1)=((j+1:Nat):Int):=by rw [w64_in (by omega) (by omega)]; omega
   have hps:p.length≤100000000:=by omega
   have step:∀ (p':List UInt8) (v:Int),0≤v→p'.length+poolN (l.take (j+1)) (l.drop (j+1))=poolN [] l→k ((NV l,ByteArray.mk #[],(),false,S p',(),((j+1:Nat):Int),()),QNI ns++[.c (.int .i64 v)],()):=fun p' v hv hq=>by
    refine hk _ ⟨j+1,p',ns++[v],by omega,by simp [QNI],hall',hq,by simp [hat],?_⟩ ?_
    ·intro n hn
     rcases List.mem_append.1 hn with hn | hn
     ·exact hnn n hn
     ·simp at hn; omega
    ·show l.length - ((j+1:Nat):Int).toNat < l.length - ((j:Nat):Int).toNat
     omega
   refine lp_ind (fun x=>j - x.1.2.2.2.2.2.2.2.2.1.toNat) (fun x=>∃ (i:Nat) (a:Int),i≤j∧x=((NV l,ByteArray.mk #[],(),false,S p,(),(j:Int),a,(i:Int),()),QNI ns,()) ∧
    ((a=-1∧l[j]∉l.take i)∨(0≤a∧l[j]∈l.take i))) ?_ ⟨0,-1,by omega,rfl,.inl ⟨rfl,by simp⟩⟩
   rintro x ⟨i,a,hi,rfl,hm⟩ k' hk'
   unfold Lq26_1
   dsimp only
   rw [NV_len,QNI_len,Int.toNat_natCast,Int.toNat_natCast]
   by_cases ei:i < j
   ·have e2:w64 ((i:Int)+1)=((i+1:Nat):Int):=by rw [w64_in (by omega) (by omega)]; omega
    have hti:l.take (i+1)=l.take i++[l[i]]:=List.take_succ_eq_append_getElem (by omega)
    have dec:j - (((i+1:Nat):Int)).toNat < j - ((i:Nat):Int).toNat:=by omega
    rw [if_pos (decide_eq_true (by omega)),if_pos (by omega)]
    refine asN (by omega) ?_
    rw [if_pos (by omega)]
    refine asN hj' ?_
    rw [S_eqB,e2]
    by_cases hq:l[i]=l[j]
    ·rw [if_pos (by simpa using hq),if_pos (by omega)]
     refine qasNI (by omega) ?_
     refine hk' _ ⟨i+1,_,ei,rfl,.inr ⟨hnn _ (List.getElem_mem _),by rw [hti,hq]; simp⟩⟩ dec
    ·rw [if_neg (by simpa using hq)]
     refine hk' _ ⟨i+1,a,ei,rfl,?_⟩ dec
     rcases hm with ⟨m1,m2⟩ | ⟨m1,m2⟩
     ·exact .inl ⟨m1,by rw [hti,List.mem_append,List.mem_singleton]; exact fun h=>h.elim m2 fun h=>hq h.symm⟩
     ·exact .inr ⟨m1,by rw [hti]; exact List.mem_append_left _ m2⟩
   ·have:i=j:=by omega
    subst this
    rw [if_neg (dneg (by omega))]
    rcases hm with ⟨m1,m2⟩ | ⟨m1,m2⟩
    ·have hc:(l.take i).contains l[i]=false:=by rw [Bool.eq_false_iff,ne_eq,List.contains_iff_mem]; exact m2
     rw [hc,if_neg (by simp)] at hp
     rw [if_pos (decide_eq_true (by omega)),if_pos (by omega)]
     refine asN hj' ?_
     have es3:S p++S l[i]++ByteArray.mk #[(0:UInt8)]=S (p++l[i]++[0]):=by
      rw [S_append p l[i]]; exact S_append _ [0]
     have es2:ByteArray.size (S p++S l[i])=p.length+l[i].length:=by rw [S_append,S_size]; simp
     rw [S_size,S_size,es2,if_neg (by omega),if_neg (by omega)]
     simp only [lt]
     rw [List.length_singleton,if_pos (room8 _ (by omega)),e1,es3]
     refine step _ _ (by omega) ?_
     rw [← hp,poolN_congr (l.drop (i+1)) (l.take (i+1)) (l[i] :: l.take i) fun t=>by
      rw [ht,Bool.eq_iff_iff,List.contains_iff_mem,List.contains_iff_mem,List.mem_append,List.mem_singleton]
      exact ⟨fun h=>List.mem_cons.2 h.symm,fun h=>(List.mem_cons.1 h).symm⟩]
     simp only [List.length_append,List.length_singleton]
     omega
    ·have hc:(l.take i).contains l[i]=true:=by rw [List.contains_iff_mem]; exact m2
     rw [hc,if_pos rfl] at hp
     rw [if_neg (dneg (by omega)),List.length_singleton,if_pos (room8 _ (by omega)),e1]
     refine step p a m1 ?_
     rw [← hp,poolN_congr (l.drop (i+1)) (l.take (i+1)) (l.take i) fun t=>by
      rw [ht,Bool.eq_iff_iff,List.contains_iff_mem,List.contains_iff_mem,List.mem_append,List.mem_singleton]
      exact ⟨fun h=>h.elim id fun h=>h ▸ m2,.inl⟩]
end Go.Proofs.YtbnpclndiichcaaGreatDoor
end
section
set_option linter.unusedVariables false
set_option linter.unusedSimpArgs false
namespace Go.Proofs.YtbnpclndiichcaaGreatDoor
open Go Go.Proofs.YtbnpclndiichcaaGreatDoor.Eng Go.Proofs.YtbnpclndiichcaaGreatDoor.Pl
set_option maxRecDepth 100000
set_option maxHeartbeats 4000000
theorem qHead (v l t y c:Int) {K:Bool→Prop} (h:K (nin l 0 201 && nin t 0 2000 && nin y 1 64 && nin c 1 256 && nin v 1 4)):Xq1r (v,0,0,l,t,y,c,()) K:=by
 unfold Xq1r Yq1r
 have hb:∀ b,b=(nin l 0 201 && nin t 0 2000 && nin y 1 64 && nin c 1 256 && nin v 1 4)→K b:=fun b e=>e ▸ h
 unfold nin at hb
 dsimp only
 simp only [decide_eq_true_eq,show ((0:Int) == 0)=true from rfl,if_true]
 repeat' split
 all_goals first
  |(refine hb _ ?_; symm; rw [Bool.eq_false_iff]; simp only [ne_eq,Bool.and_eq_true,decide_eq_true_eq]; omega)
  |(refine hb _ ?_; symm; simp only [Bool.and_eq_true,decide_eq_true_eq]; omega)
theorem qCount (z:Zn) (h:ZI z) {K:Int×Int×Int×Int×Int×Int×Int×Unit→Bool→Prop} (hk:∀ r,K r (countOk z)):Xq1t (tupZ z) K:=by
 show Xq1t (TV z.ty,RV z.tr,RV z.lp,S z.ft,z.v,()) K
 unfold Xq1t Yq1t
 have hk1:∀ r b,b=countOk z→K r b:=fun r b e=>e ▸ hk r
 refine qNames z (by have:=h.ty; omega) ?_
 refine qPool _ (by have:=h.ty; simp; omega) (fun s hs=>?_) (fun p at' o y hp ha hs=>?_) fun ha p at' o y=>?_
 ·obtain ⟨t,ht,rfl⟩:=List.mem_map.1 hs
  have:=h.nm t ht; omega
 ·rw [if_neg (by simp)]
  dsimp only
  rw [RV_len,RV_len,TV_len]
  refine qHead _ _ _ _ _ ?_
  have e:countOk z=(nin z.lp.length 0 201 && nin z.tr.length 0 2000 && nin z.ty.length 1 64 && nin (poolN [] (z.ty.map (·.2.2)):Nat) 1 256 && nin z.v 1 4):=by
   unfold countOk
   rw [ha,Bool.true_and]
  rw [hs,← e]
  cases hb:countOk z
  ·rw [if_pos (show (!false)=true from rfl)]; exact hk1 _ _ hb.symm
  ·rw [if_neg (by simp)]; exact hk1 _ _ hb.symm
 ·rw [if_pos (show (!false)=true from rfl)]
  refine hk1 _ _ ?_
  unfold countOk
  rw [ha]; simp
theorem qRightZ (z:Zn) (h:ZI z) {K:Bool→Prop} (hk:K (zoneRight z)):Xq1a (tupZ z) K:=by
 show Xq1a (TV z.ty,RV z.tr,RV z.lp,S z.ft,z.v,()) K
 unfold Xq1a Yq1a
 dsimp only
 have hl:=h.lp
 have hty:=h.ty
 have htr:=h.tr
 unfold zoneRight at hk
 refine qCount z h fun r=>?_
 refine qRecRight z.lp h.ri (by omega) ?_
 refine qExpiry z.lp (by omega) fun n=>?_
 cases e1:countOk z
 ·rw [e1] at hk
  rw [if_pos (show (!false)=true from rfl)]
  simpa using hk
 rw [e1] at hk
 rw [if_neg (by simp)]
 cases e2:recRight z.lp
 ·rw [e2] at hk
  rw [if_pos (show (!false)=true from rfl)]
  simpa using hk
 rw [e2] at hk
 rw [if_neg (by simp)]
 have hv:1≤z.v∧z.v≤4:=by
  unfold countOk nin at e1
  simp only [Bool.and_eq_true,decide_eq_true_eq] at e1
  exact e1.2
 have rest:∀ {K:Bool→Prop},K (z.ty.all (fun t=>decide (-89999≤t.1∧t.1≤93599)) && trOk z.ty.length none z.tr && endsOk z) →
   lp (Lq1a_0 Xq1f K) (((),false,0,()),(TV z.ty,RV z.tr,RV z.lp,S z.ft,z.v,()),()):=by
  intro K hk
  refine lp_ind (fun x=>z.ty.length - x.1.2.2.1.toNat) (fun x=>∃ j:Nat,j≤z.ty.length∧x=(((),false,(j:Int),()),(TV z.ty,RV z.tr,RV z.lp,S z.ft,z.v,()),())∧(z.ty.drop j).all (fun t=>decide (-89999≤t.1∧t.1≤93599))=z.ty.all (fun t=>decide (-89999≤t.1∧t.1≤93599))) ?_ ⟨0,by omega,rfl,rfl⟩
  rintro x ⟨j,hj,rfl,ha⟩ k hk2
  unfold Lq1a_0
  dsimp only
  rw [TV_len,Int.toNat_natCast]
  by_cases e:j < z.ty.length
  ·have e1:w64 ((j:Int)+1)=((j+1:Nat):Int):=by rw [w64_in (by omega) (by omega)]; omega
   rw [List.drop_eq_getElem_cons e,List.all_cons] at ha
   rw [if_pos (decide_eq_true (by omega)),if_pos (by omega)]
   refine asT1 e ?_
   rw [if_pos (show 0≤(j:Int)∧(j:Int) < z.ty.length by omega)]
   by_cases c1:(z.ty[j]).1 < -89999
   ·rw [if_pos (decide_eq_true c1)]
    rw [show decide (-89999≤(z.ty[j]).1∧(z.ty[j]).1≤93599)=false by simp; omega,Bool.false_and] at ha
    rw [← ha] at hk; simpa using hk
   rw [if_neg (dneg c1)]
   refine asT1 e ?_
   by_cases c2:(z.ty[j]).1 > 93599
   ·rw [if_pos (decide_eq_true c2)]
    rw [show decide (-89999≤(z.ty[j]).1∧(z.ty[j]).1≤93599)=false by simp; omega,Bool.false_and] at ha
    rw [← ha] at hk; simpa using hk
   rw [if_neg (dneg c2),e1]
   rw [show decide (-89999≤(z.ty[j]).1∧(z.ty[j]).1≤93599)=true by simp; omega,Bool.true_and] at ha
   exact hk2 _ ⟨j+1,e,rfl,ha⟩ (by show z.ty.length - ((j+1:Nat):Int).toNat < z.ty.length - ((j:Nat):Int).toNat; omega)
  ·have:j=z.ty.length:=by omega
   subst this
   rw [if_neg (dneg (by omega))]
   rw [List.drop_length,List.all_nil] at ha
   rw [← ha,Bool.true_and] at hk
   clear hk2 ha
   refine lp_ind (fun x=>z.tr.length - x.1.2.2.1.toNat) (fun x=>∃ (j:Nat) (b:Option Int),j≤z.tr.length∧x=(((),false,(j:Int),()),(TV z.ty,RV z.tr,RV z.lp,S z.ft,z.v,()),())∧trOk z.ty.length b (z.tr.drop j)=trOk z.ty.length none z.tr∧(j=0→b=none)∧(∀ (h0:0 < j) (hj:j - 1 < z.tr.length),b=some (z.tr[j - 1]).1)) ?_ ⟨0,none,by omega,rfl,rfl,fun _=>rfl,fun h=>absurd h (by omega)⟩
   rintro x ⟨j,b,hj,rfl,hok,hb0,hb1⟩ k' hk'
   unfold Lq1a_1
   dsimp only
   rw [RV_len,TV_len,Int.toNat_natCast]
   by_cases e:j < z.tr.length
   ·have e1:w64 ((j:Int)+1)=((j+1:Nat):Int):=by rw [w64_in (by omega) (by omega)]; omega
    rw [List.drop_eq_getElem_cons e] at hok
    have hcons:=trOk_cons z.ty.length b z.tr[j] (z.tr.drop (j+1))
    rw [hok] at hcons
    have bad:¬ ((0≤(z.tr[j]).2∧(z.tr[j]).2 < z.ty.length)∧(∀ a,b=some a→(z.tr[j]).1 > a))→K false:=fun hn=>by
     have:trOk z.ty.length none z.tr=false:=by
      cases hr:trOk z.ty.length none z.tr
      ·rfl
      ·exact absurd (hcons.1 hr).1 hn
     rw [this] at hk; simpa using hk
    have good:((0≤(z.tr[j]).2∧(z.tr[j]).2 < z.ty.length)∧(∀ a,b=some a→(z.tr[j]).1 > a))→k' (((),false,((j+1:Nat):Int),()),(TV z.ty,RV z.tr,RV z.lp,S z.ft,z.v,()),()):=fun hg=>by
     refine hk' _ ⟨j+1,some (z.tr[j]).1,by omega,rfl,?_,fun h=>absurd h (by omega),fun h0 hj=>rfl⟩ ?_
     ·rw [Bool.eq_iff_iff]
      exact ⟨fun hr=>hcons.2 ⟨hg,hr⟩,fun hr=>(hcons.1 hr).2⟩
     ·show z.tr.length - ((j+1:Nat):Int).toNat < z.tr.length - ((j:Nat):Int).toNat
      omega
    rw [if_pos (decide_eq_true (by omega)),if_pos (by omega)]
    refine asR2 e ?_
    by_cases c1:(z.tr[j]).2 < 0
    ·rw [if_pos (decide_eq_true c1)]
     exact bad fun hn=>by omega
    rw [if_neg (dneg c1),if_pos (by omega)]
    refine asR2 e ?_
    by_cases c2:(z.tr[j]).2≥(z.ty.length:Int)
    ·rw [if_pos (decide_eq_true c2)]
     exact bad fun hn=>by omega
    rw [if_neg (dneg c2),e1]
    by_cases c3:j=0
    ·rw [if_neg (dneg (by omega))]
     exact good ⟨⟨by omega,by omega⟩,fun a ha=>by rw [hb0 c3] at ha; cases ha⟩
    ·have e2:w64 ((j:Int) - 1)=((j - 1:Nat):Int):=by rw [w64_in (by omega) (by omega)]; omega
     have hb:=hb1 (by omega) (by omega)
     rw [if_pos (decide_eq_true (by omega)),if_pos (by omega)]
     refine asR1 e ?_
     rw [e2,if_pos (by omega),Int.toNat_natCast]
     refine asR1 (by omega) ?_
     by_cases c4:(z.tr[j]).1≤(z.tr[j - 1]'(by omega)).1
     ·rw [if_pos (decide_eq_true c4)]
      exact bad fun hn=>by have:=hn.2 _ hb; omega
     ·rw [if_neg (dneg c4)]
      exact good ⟨⟨by omega,by omega⟩,fun a ha=>by rw [hb] at ha; cases ha; omega⟩
   ·have:j=z.tr.length:=by omega
    subst this
    rw [if_neg (dneg (by omega))]
    rw [List.drop_length] at hok
    have hok2:trOk z.ty.length none z.tr=true:=hok.symm
    rw [hok2,Bool.true_and] at hk
    rw [S_nil]
    unfold endsOk at hk
    cases e:z.ft.isEmpty
    ·rw [e,Bool.false_or] at hk
     rw [if_neg (by simp)]
     refine rfootParse z.ft (by have:=h.ft; omega) ?_
     have hb:∀ b,b=((Ft.parse z.ft).2 && decide (z.v≥if (oddR (Ft.parse z.ft).1.fr.x || oddR (Ft.parse z.ft).1.to.x)=true then 3 else 2))→K b:=fun b e=>e ▸ hk
     have q1:∀ f:Ft,(tupFt f).2.2.2.2.2.2.2.2.2.2.2.1=f.fr.x:=fun _=>rfl
     have q2:∀ f:Ft,(tupFt f).2.2.2.2.2.2.2.2.2.2.2.2.2.2.2.2.1=f.to.x:=fun _=>rfl
     rw [q1,q2]
     generalize (Ft.parse z.ft).1.fr.x=a at *
     generalize (Ft.parse z.ft).1.to.x=c at *
     generalize (Ft.parse z.ft).2=o at *
     unfold oddR at hb
     cases o
     ·simp only [Bool.false_and,if_false,Bool.false_eq_true] at hb ⊢
      have:=hb _ rfl
      repeat' split
      all_goals exact this
     ·simp only [Bool.true_and,if_true,decide_eq_true_eq,Bool.or_eq_true,Bool.not_eq_true',decide_eq_false_iff_not] at hb ⊢
      repeat' split
      all_goals first
       |(refine hb _ ?_; symm; rw [decide_eq_true_eq]; split <;> omega)
       |(refine hb _ ?_; symm; rw [decide_eq_false_iff_not]; split <;> omega)
       |(refine hb _ ?_; rw [decide_eq_decide]; split <;> omega)
    ·rw [e] at hk
     rw [if_pos rfl]; exact hk
 cases e3:lastExp z.lp
 ·rw [e3] at hk
  rw [if_neg (by simp)]
  exact rest (by simpa [Bool.and_assoc] using hk)
 ·rw [e3] at hk
  rw [if_pos rfl]
  by_cases e6:z.v=4
  ·rw [if_neg (by simpa using e6)]
   have:decide (z.v≥4)=true:=by simp; omega
   rw [this] at hk
   exact rest (by simpa [Bool.and_assoc] using hk)
  ·rw [if_pos (by simpa using e6)]
   have:decide (z.v≥4)=false:=by simp; omega
   rw [this] at hk
   simpa using hk
end Go.Proofs.YtbnpclndiichcaaGreatDoor
end
section
set_option linter.unusedVariables false
set_option linter.unusedSimpArgs false
namespace Go.Proofs.YtbnpclndiichcaaGreatDoor
open Go Go.Proofs.YtbnpclndiichcaaGreatDoor.Eng Go.Proofs.YtbnpclndiichcaaGreatDoor.Pl
set_option maxRecDepth 100000
set_option maxHeartbeats 4000000
theorem tw_cons0 (r:List UInt8):List.takeWhile (· != 0) ((0:UInt8) :: r)=[]:=rfl
theorem nAt (p:List UInt8) (hp:p.length≤1000000) (a:Int) {K:ByteArray→Bool→Prop} (h:K (S (abbrAt p a).1) (abbrAt p a).2):Xq2h (S p) a K:=by
 unfold Xq2h Yq2h
 unfold abbrAt at h
 rw [S_size]
 by_cases h0:a < 0
 ·rw [if_pos (decide_eq_true h0)]
  rw [if_neg (by omega)] at h; exact h
 rw [if_neg (dneg h0)]
 by_cases h1:a≥p.length
 ·rw [if_pos (decide_eq_true h1)]
  rw [if_neg (by omega)] at h; exact h
 rw [if_neg (dneg h1)]
 obtain ⟨n,rfl⟩:∃ n:Nat,a=(n:Int):=⟨a.toNat,by omega⟩
 rw [Int.toNat_natCast] at h
 refine lp_ind (fun x=>p.length - x.1.2.2.2.2.1.toNat) (fun x=>∃ j:Nat,n≤j∧j≤p.length∧(∀ c∈(p.drop n).take (j - n),c≠0)∧x=((S p,(n:Int),ByteArray.mk #[],false,(j:Int),()),())) ?_ ⟨n,Nat.le_refl _,by omega,by simp,rfl⟩
 rintro x ⟨j,hnj,hj,hnz,rfl⟩ k hk
 unfold Lq2h_0
 dsimp only
 rw [S_sizeI]
 by_cases e:j < p.length
 ·have hx:0≤(j:Int)∧(j:Int) < (p.length:Int):=by omega
  rw [if_pos (decide_eq_true (by omega)),if_pos hx,Int.toNat_natCast,Int.toNat_natCast,bAt_get p j e]
  have hdj:(p.drop n)[j - n]'(by rw [List.length_drop]; omega)=p[j]:=by rw [List.getElem_drop]; congr 1; omega
  by_cases c0:p[j]=0
  ·rw [if_pos (by simp [c0]),if_pos (by omega),if_pos (by omega),S_extract]
   have hname:nameAt p n=(p.drop n).take (j - n):=by
    unfold nameAt
    have hsplit:p.drop n=(p.drop n).take (j - n)++((0:UInt8) :: (p.drop n).drop (j - n+1)):=by
     conv=>lhs; rw [← List.take_append_drop (j - n) (p.drop n)]
     congr 1
     rw [List.drop_eq_getElem_cons (by rw [List.length_drop]; omega),hdj,c0]
    rw [hsplit,List.takeWhile_append_of_pos (fun c hc=>by simpa using hnz c hc),tw_cons0,List.append_nil]
    rw [List.take_append_of_le_length (by rw [List.length_take,List.length_drop]; omega),List.take_take,Nat.min_self]
   have hmem:(0:UInt8)∈p.drop n:=by
    rw [← c0,← hdj]; exact List.getElem_mem _
   rw [hname] at h
   refine rabbr _ (by rw [List.length_take,List.length_drop]; omega) ?_
   cases ha:abbrL ((p.drop n).take (j - n))
   ·rw [if_pos (by rfl)]
    rw [if_neg (by rw [ha]; simp)] at h; exact h
   ·rw [if_neg (by simp)]
    rw [if_pos ⟨by omega,by omega,hmem,ha⟩] at h; exact h
  ·have hc:¬ ((p[j]).toNat:Int)=0:=fun q=>c0 (UInt8.toNat_inj.1 (show (p[j]).toNat=0 by omega))
   rw [if_neg (by simpa using hc)]
   have e1:w64 ((j:Int)+1)=((j+1:Nat):Int):=by rw [w64_in (by omega) (by omega)]; omega
   rw [e1]
   refine hk _ ⟨j+1,by omega,e,fun c q=>?_,rfl⟩ (by show p.length - ((j+1:Nat):Int).toNat < p.length - ((j:Nat):Int).toNat; omega)
   rw [show j+1 - n=(j - n)+1 by omega,List.take_succ_eq_append_getElem (by rw [List.length_drop]; omega),hdj] at q
   rcases List.mem_append.1 q with q | q
   ·exact hnz c q
   ·rw [List.mem_singleton] at q; rw [q]; exact c0
 ·have:j=p.length:=by omega
  subst this
  rw [if_neg (dneg (by omega))]
  have hno:(0:UInt8)∉p.drop n:=fun q=>hnz 0 (by rw [List.take_of_length_le (by rw [List.length_drop]; omega)]; exact q) rfl
  rw [if_neg (fun q=>hno q.2.2.1)] at h
  exact h
theorem B8_app0 (l:List UInt8):B8 l++[V.c (Value.int IntKind.u8 0)]=B8 (l++[0]):=by simp [B8]
theorem nHeadLoop (h:Hd) (q:headOk h=true) (P:List UInt8) (hP:P.length≤1000) {K:Bool→List V→Bool→Bool→Prop} (k2:_→Prop)
  (hk:K true (B8 (P++((numsH h).map (be 4)).flatten)) true false) :
  lp (Lq10_1 Xq2a K k2) (((),false,(),(),(0:Int),()),(B8 P,true,false),([V.c (.int .i64 h.ut),V.c (.int .i64 h.sd),V.c (.int .i64 h.lp),V.c (.int .i64 h.tr),V.c (.int .i64 h.ty),V.c (.int .i64 h.ch)],true,false),()):=by
 have n4:=num4 q
 refine lp_ind (fun x=>6 - x.1.2.2.2.2.1.toNat) (fun x=>∃ (j:Nat) (l:List UInt8),j≤6∧l=P++(((numsH h).take j).map (be 4)).flatten∧x=(((),false,(),(),(j:Int),()),(B8 l,true,false),([V.c (.int .i64 h.ut),V.c (.int .i64 h.sd),V.c (.int .i64 h.lp),V.c (.int .i64 h.tr),V.c (.int .i64 h.ty),V.c (.int .i64 h.ch)],true,false),())) ?_ ⟨0,P,by omega,by simp,rfl⟩
 rintro x ⟨j,l,hj,hl,rfl⟩ k' hk'
 unfold Lq10_1
 dsimp only
 have hlen:l.length≤2000:=by
  rw [hl,List.length_append]
  have:∀ (m:List Int),((m.map (be 4)).flatten).length=4 * m.length:=fun m=>by
   induction m with
   | nil=>rfl
   | cons a r ih=>rw [List.map_cons,List.flatten_cons,List.length_append,be_len,ih,List.length_cons]; omega
  rw [this,List.length_take]
  have:(numsH h).length=6:=rfl
  omega
 have hL:((([V.c (.int .i64 h.ut),V.c (.int .i64 h.sd),V.c (.int .i64 h.lp),V.c (.int .i64 h.tr),V.c (.int .i64 h.ty),V.c (.int .i64 h.ch)]:List V).length:Nat):Int)=6:=rfl
 rw [hL]
 by_cases e:j < 6
 ·have e1:w64 ((j:Int)+1)=((j+1:Nat):Int):=by rw [w64_in (by omega) (by omega)]; omega
  have hjn:j < (numsH h).length:=e
  rw [if_pos (decide_eq_true (by omega)),if_pos (by omega),Int.toNat_natCast,e1]
  have eN:([V.c (.int .i64 h.ut),V.c (.int .i64 h.sd),V.c (.int .i64 h.lp),V.c (.int .i64 h.tr),V.c (.int .i64 h.ty),V.c (.int .i64 h.ch)]:List V)=NI (numsH h):=rfl
  rw [eN]
  refine asNI hjn ?_
  have hm:=n4 _ (List.getElem_mem hjn)
  have ht:(numsH h).take (j+1)=(numsH h).take j++[(numsH h)[j]]:=List.take_succ_eq_append_getElem hjn
  generalize (numsH h)[j]=n at *
  show Xq2a (B8 l) n ((4:Nat):Int) _
  refine nPut l (by omega) 4 (.inr (.inl rfl)) n (fun q=>absurd q (by decide)) ?_
  rw [if_pos (fits4 hm)]
  refine hk' _ ⟨j+1,l++be 4 n,e,?_,rfl⟩ (by show 6 - ((j+1:Nat):Int).toNat < 6 - ((j:Nat):Int).toNat; omega)
  rw [ht,hl,List.map_append,List.flatten_append,List.append_assoc]; simp
 ·have:j=6:=by omega
  subst this
  rw [if_neg (dneg (by omega))]
  rw [show (numsH h).take 6=numsH h from rfl] at hl
  rw [← hl] at hk
  exact hk
theorem nHeadEncode (h:Hd) {K:Bool→List V→Bool→Bool→Prop} (h1:headOk h=true→K true (B8 (headE h)) true false) (h2:headOk h=false→K false [] true true):Xq10 (tupHd h) K:=by
 unfold Xq10 Yq10
 refine nHead h ?_
 cases q:headOk h
 ·rw [if_pos (by rfl)]; exact h2 q
 rw [if_neg (by simp)]
 have h1:=h1 q
 rw [headE_eq] at h1
 have o:=head_ok q
 have hv:=o.v
 have main:∀ (c:List UInt8),c.length=1→K true (B8 ((magicL++(c++List.replicate 15 0))++((numsH h).map (be 4)).flatten)) true false→lp (Lq10_0 Xq2a K) (((),(),false,(),0,()),tupHd h,B8 (magicL++c),()):=fun c hc hK=>by
  refine lp_at (fun j=>(((),(),false,(),(j:Int),()),tupHd h,B8 (magicL++(c++List.replicate j 0)),())) 15 (by simp) fun j hj k hk=>?_
  unfold Lq10_0
  dsimp only
  by_cases e:j < 15
  ·have e1:w64 ((j:Int)+1)=((j+1:Nat):Int):=by rw [w64_in (by omega) (by omega)]; omega
   rw [if_pos (decide_eq_true (by omega)),B8_len,if_pos (room1 _ (by simp [magicL,hc]; omega)),e1,B8_app0]
   have:=hk e
   rw [List.replicate_succ',← List.append_assoc,← List.append_assoc] at this
   rw [← List.append_assoc]
   exact this
  ·have:j=15:=by omega
   subst this
   rw [if_neg (dneg (by omega))]
   exact nHeadLoop h q _ (by simp [magicL,hc]) k hK
 by_cases v1:1 < h.v
 ·rw [if_pos (show decide ((tupHd h).1 > 1)=true from decide_eq_true v1)]
  rw [if_pos v1] at h1
  have hb:∀ v:Int,1 < v→v≤4→V.c (Value.int IntKind.u8 (wu8 (w64 (48+v))))=V.c (Value.int IntKind.u8 ((UInt8.ofNat (48+v).toNat).toNat:Int)):=fun v a b=>by
   have:v=2∨v=3∨v=4:=by omega
   rcases this with rfl | rfl | rfl <;> rfl
  rw [hb (tupHd h).1 v1 hv.2]
  exact main [UInt8.ofNat (48+h.v).toNat] rfl h1
 ·rw [if_neg (show ¬ decide ((tupHd h).1 > 1)=true from dneg v1)]
  rw [if_neg v1] at h1
  exact main [0] rfl h1
theorem nHeadDecode (b:List UInt8) (hb:b.length≤1000000) {K:Int×Int×Int×Int×Int×Int×Int×Unit→Bool→Prop} (h:K (tupHd (headD b).1) (headD b).2):Xq0z (B8 b) K:=by
 unfold Xq0z Yq0z
 rw [B8_len]
 by_cases h44:b.length < 44
 ·rw [if_pos (decide_eq_true (by omega))]
  unfold headD at h
  rw [if_neg (by omega)] at h; exact h
 rw [if_neg (dneg (by omega)),if_pos (by omega),B8_cut]
 obtain ⟨d,hd⟩:∃ d,d=(b.drop 20).take 24:=⟨_,rfl⟩
 have dl:d.length=24:=by rw [hd,List.length_take,List.length_drop]; omega
 have dn:∀ i,i+4≤24→(d.drop i).take 4=(b.drop (20+i)).take 4:=fun i hi=>by
  rw [hd,List.drop_take,List.take_take,List.drop_drop,show min 4 (24 - i)=4 by omega]
 rw [← hd]
 refine nOpen d (by omega) ?_
 refine nNumS 4 (.inr (.inl rfl)) d (by omega) (by omega) true false ?_
 refine nNumS 4 (.inr (.inl rfl)) (d.drop 4) (by rw [List.length_drop]; omega) (by rw [List.length_drop]; omega) false true ?_
 rw [List.drop_drop]
 refine nNumS 4 (.inr (.inl rfl)) (d.drop (4+4)) (by rw [List.length_drop]; omega) (by rw [List.length_drop]; omega) false true ?_
 rw [List.drop_drop]
 refine nNumS 4 (.inr (.inl rfl)) (d.drop (4+4+4)) (by rw [List.length_drop]; omega) (by rw [List.length_drop]; omega) false true ?_
 rw [List.drop_drop]
 refine nNumS 4 (.inr (.inl rfl)) (d.drop (4+4+4+4)) (by rw [List.length_drop]; omega) (by rw [List.length_drop]; omega) false true ?_
 rw [List.drop_drop]
 refine nNumS 4 (.inr (.inl rfl)) (d.drop (4+4+4+4+4)) (by rw [List.length_drop]; omega) (by rw [List.length_drop]; omega) false true ?_
 have d0:d.take 4=(b.drop 20).take 4:=by have:=dn 0 (by omega); simpa using this
 rw [d0,dn 4 (by omega),dn (4+4) (by omega),dn (4+4+4) (by omega),dn (4+4+4+4) (by omega),dn (4+4+4+4+4) (by omega)]
 have hx4:(0:Int)≤4∧(4:Int) < (b.length:Int):=by omega
 have g4:b.getD 4 0=b[4]'(by omega):=by rw [List.getD_eq_getElem?_getD,List.getElem?_eq_getElem (by omega)]; rfl
 have hc:=(b.getD 4 0).toNat_lt
 have fin:∀ H:Hd,H.ut=(headG b).ut∧H.sd=(headG b).sd∧H.lp=(headG b).lp∧H.tr=(headG b).tr∧H.ty=(headG b).ty∧H.ch=(headG b).ch→(((b.getD 4 0).toNat:Int) > 48→H.v=((b.getD 4 0).toNat:Int) - 48)→(¬ ((b.getD 4 0).toNat:Int) > 48→H.v=1) →
   Xq10 (tupHd H) (fun r37 r38 r39 r40=>if (!r37)=true then dup (K (0,0,0,0,0,0,0,()) false) else if (0:Int)≤44∧(44:Int)≤(b.length:Int) then
    ((if Eng.allU8 r38=true then (if Eng.allU8 (Eng.cutL (B8 b) 0 44)=true then (if (!ByteArray.toList (Eng.packB r38) == ByteArray.toList (Eng.packB (Eng.cutL (B8 b) 0 44)))=true then K (0,0,0,0,0,0,0,()) false else K (tupHd H) true) else False) else False) ∧
     (if Eng.allU8 (Eng.cutL (B8 b) 0 44)=true then (if Eng.allU8 r38=true then (if (!ByteArray.toList (Eng.packB r38) == ByteArray.toList (Eng.packB (Eng.cutL (B8 b) 0 44)))=true then K (0,0,0,0,0,0,0,()) false else K (tupHd H) true) else False) else False)) else False):=fun H hn hv hv'=>by
  have hi:=head_iff (by omega) H hn hv hv'
  rw [hi] at h
  refine nHeadEncode H (fun q=>?_) (fun q=>?_)
  ·rw [if_neg (by simp),if_pos (by omega),B8_cut,List.drop_zero]
   have body:(if Eng.allU8 (B8 (headE H))=true then (if Eng.allU8 (B8 (b.take 44))=true then (if (!ByteArray.toList (Eng.packB (B8 (headE H))) == ByteArray.toList (Eng.packB (B8 (b.take 44))))=true then K (0,0,0,0,0,0,0,()) false else K (tupHd H) true) else False) else False):=by
    rw [if_pos (B8_all _),if_pos (B8_all _),B8_pack,B8_pack,S_toList,S_toList]
    by_cases e:headE H=b.take 44
    ·rw [if_neg (by simp [e])]
     rw [if_pos ⟨q,e⟩] at h; exact h
    ·rw [if_pos (by simpa using e)]
     rw [if_neg (fun w=>e w.2)] at h; exact h
   refine ⟨body,?_⟩
   rw [if_pos (B8_all _)] at body
   rw [if_pos (B8_all _)] at body ⊢
   rw [if_pos (B8_all _)]
   exact body
  ·rw [if_pos (by rfl)]
   rw [if_neg (fun w=>by rw [q] at w; cases w.1)] at h
   exact dup_of h
 rw [if_pos hx4]
 refine asB8 (by omega) ?_
 rw [← g4]
 by_cases c48:((b.getD 4 0).toNat:Int) > 48
 ·rw [if_pos (decide_eq_true c48),if_pos hx4]
  refine asB8 (by omega) ?_
  rw [← g4]
  have ev:w64 (wu8 (((b.getD 4 0).toNat:Int) - 48))=((b.getD 4 0).toNat:Int) - 48:=by
   rw [wu8_mod,Int.emod_eq_of_lt (by omega) (by omega),w64_in (by omega) (by omega)]
  rw [ev]
  exact fin ⟨_,_,_,_,_,_,_⟩ ⟨rfl,rfl,rfl,rfl,rfl,rfl⟩ (fun _=>rfl) (fun q=>absurd c48 q)
 ·rw [if_neg (dneg c48)]
  exact fin ⟨_,_,_,_,_,_,_⟩ ⟨rfl,rfl,rfl,rfl,rfl,rfl⟩ (fun q=>absurd q c48) (fun _=>rfl)
end Go.Proofs.YtbnpclndiichcaaGreatDoor
end
section
set_option linter.unusedVariables false
set_option linter.unusedSimpArgs false
namespace Go.Proofs.YtbnpclndiichcaaGreatDoor
open Go Go.Proofs.YtbnpclndiichcaaGreatDoor.Eng Go.Proofs.YtbnpclndiichcaaGreatDoor.Pl
set_option maxRecDepth 100000
set_option maxHeartbeats 4000000
structure PoolI (l:List (List UInt8)) (j:Nat) (p:List UInt8) (hd:List (List UInt8×Nat)) (A:List Nat):Prop where
 len:A.length=j
 all:poolL l=((poolG p hd (l.drop j)).1,A++(poolG p hd (l.drop j)).2)
 found:∀ i (hi:i < j) (hl:i < l.length) (ha:i < A.length),∃ x,hd.find? (fun x=>x.1 == l[i])=some x∧x.2=A[i]
 from':∀ x∈hd,x.1∈l.take j
theorem find_snoc_ne {hd:List (List UInt8×Nat)} {s t:List UInt8} {n:Nat} {x:List UInt8×Nat} (h:hd.find? (fun x=>x.1 == t)=some x):(hd++[(s,n)]).find? (fun x=>x.1 == t)=some x:=by
 rw [List.find?_append,h]; rfl
theorem PoolI.new {l:List (List UInt8)} {j:Nat} {p:List UInt8} {hd:List (List UInt8×Nat)} {A:List Nat} (h:PoolI l j p hd A) (hj:j < l.length) (hn:hd.find? (fun x=>x.1 == l[j])=none):PoolI l (j+1) (p++(l[j]++[0])) (hd++[(l[j],p.length)]) (A++[p.length]):=by
 have hd':l.drop j=l[j] :: l.drop (j+1):=List.drop_eq_getElem_cons hj
 have ht:l.take (j+1)=l.take j++[l[j]]:=List.take_succ_eq_append_getElem hj
 have ha:=h.all
 rw [hd',poolG,hn] at ha
 refine ⟨by rw [List.length_append,h.len]; rfl,?_,fun i hi hl hA=>?_,fun x hx=>?_⟩
 ·rw [ha]; simp
 ·by_cases e:i < j
  ·obtain ⟨x,f1,f2⟩:=h.found i e hl (by rw [h.len]; exact e)
   exact ⟨x,find_snoc_ne f1,by rw [f2,List.getElem_append_left]⟩
  ·have:i=j:=by omega
   subst this
   refine ⟨(l[i],p.length),?_,?_⟩
   ·rw [List.find?_append,hn]; simp
   ·rw [List.getElem_append_right (by rw [h.len]; omega)]; simp [h.len]
 ·rw [ht]
  rcases List.mem_append.1 hx with hx | hx
  ·exact List.mem_append_left _ (h.from' x hx)
  ·rw [List.mem_singleton] at hx
   rw [hx]; exact List.mem_append_right _ (List.mem_singleton.2 rfl)
theorem PoolI.had {l:List (List UInt8)} {j:Nat} {p:List UInt8} {hd:List (List UInt8×Nat)} {A:List Nat} (h:PoolI l j p hd A) (hj:j < l.length) {x:List UInt8×Nat} (hn:hd.find? (fun x=>x.1 == l[j])=some x):PoolI l (j+1) p hd (A++[x.2]):=by
 have hd':l.drop j=l[j] :: l.drop (j+1):=List.drop_eq_getElem_cons hj
 have ht:l.take (j+1)=l.take j++[l[j]]:=List.take_succ_eq_append_getElem hj
 have ha:=h.all
 rw [hd',poolG,hn] at ha
 refine ⟨by rw [List.length_append,h.len]; rfl,?_,fun i hi hl hA=>?_,fun x hx=>?_⟩
 ·rw [ha]; simp
 ·by_cases e:i < j
  ·obtain ⟨y,f1,f2⟩:=h.found i e hl (by rw [h.len]; exact e)
   exact ⟨y,f1,by rw [f2,List.getElem_append_left]⟩
  ·have:i=j:=by omega
   subst this
   exact ⟨x,hn,by rw [List.getElem_append_right (by rw [h.len]; omega)]; simp [h.len]⟩
 ·rw [ht]; exact List.mem_append_left _ (h.from' x hx)
theorem nPool (l:List (List UInt8)) (hl:l.length≤1000) (hs:∀ s∈l,s.length≤10000) {K:ByteArray→Bool→List V→Bool→Bool→Prop}
  (h:(l.all abbrL && decide (poolN [] l≤256))=true→K (S (poolL l).1) true (NI ((poolL l).2.map fun n:Nat=>(n:Int))) true false)
  (h':(l.all abbrL && decide (poolN [] l≤256))=false→∀ p at' o z,K p false at' o z):Xq26 (NV l) K:=by
 unfold Xq26 Yq26
 have hle:=poolN_le l [] hs
 refine lp_ind (fun x=>l.length - x.1.2.2.2.2.2.2.1.toNat) (fun x=>∃ (j:Nat) (p:List UInt8) (hd:List (List UInt8×Nat)) (A:List Nat),j≤l.length∧x=((NV l,ByteArray.mk #[],(),false,S p,(),(j:Int),()),NI (A.map fun n:Nat=>(n:Int)),()) ∧
  (l.take j).all abbrL=true∧p.length+poolN (l.take j) (l.drop j)=poolN [] l∧PoolI l j p hd A) ?_ ⟨0,[],[],[],by omega,rfl,rfl,by simp,rfl,rfl,fun i hi=>absurd hi (Nat.not_lt_zero i),fun x hx=>by cases hx⟩
 rintro x ⟨j,p,hd,A,hj,rfl,hall,hp,hI⟩ k hk
 have hat:=hI.len
 unfold Lq26_0
 dsimp only
 rw [NV_len,Int.toNat_natCast]
 by_cases e:j=l.length
 ·rw [if_neg (dneg (by omega)),S_size]
  rw [e,List.take_length] at hall
  rw [e,List.drop_length] at hp
  have hp':p.length=poolN [] l:=by simpa [poolN] using hp
  by_cases h2:(p.length:Int) > 256
  ·rw [if_pos (decide_eq_true h2)]
   exact h' (by rw [hall]; simp; omega) _ _ _ _
  ·rw [if_neg (dneg h2)]
   have ha:=hI.all
   rw [e,List.drop_length,poolG,List.append_nil] at ha
   have h:=h (by rw [hall]; simp; omega)
   rw [ha] at h
   exact h
 ·have hj':j < l.length:=by omega
  rw [if_pos (decide_eq_true (by omega)),if_pos (by omega)]
  refine asN hj' ?_
  have hsl:=hs l[j] (List.getElem_mem hj')
  refine rabbr _ (by omega) ?_
  have hd':l.drop j=l[j] :: l.drop (j+1):=List.drop_eq_getElem_cons hj'
  have ht:l.take (j+1)=l.take j++[l[j]]:=List.take_succ_eq_append_getElem hj'
  have hmem:=List.getElem_mem hj'
  rw [hd',poolN] at hp
  cases ha:abbrL l[j]
  ·rw [if_pos (show (!false)=true from rfl)]
   refine h' ?_ _ _ _ _
   have:l.all abbrL=false:=by
    rw [Bool.eq_false_iff]; intro h; rw [List.all_eq_true.1 h _ hmem] at ha; cases ha
   rw [this]; rfl
  ·rw [if_neg (by simp)]
   have hall':(l.take (j+1)).all abbrL=true:=by rw [ht,List.all_append,hall]; simp [ha]
   have e1:w64 ((j:Int)+1)=((j+1:Nat):Int):=by rw [w64_in (by omega) (by omega)]; omega
   have hps:p.length≤100000000:=by omega
   have step:∀ (p':List UInt8) (hd2:List (List UInt8×Nat)) (v:Nat),p'.length+poolN (l.take (j+1)) (l.drop (j+1))=poolN [] l→PoolI l (j+1) p' hd2 (A++[v])→k ((NV l,ByteArray.mk #[],(),false,S p',(),((j+1:Nat):Int),()),NI (A.map fun n:Nat=>(n:Int))++[.c (.int .i64 (v:Int))],()):=fun p' hd2 v hq hI'=>by
    refine hk _ ⟨j+1,p',hd2,A++[v],by omega,by simp [NI],hall',hq,hI'⟩ ?_
    show l.length - ((j+1:Nat):Int).toNat < l.length - ((j:Nat):Int).toNat
    omega
   refine lp_ind (fun x=>j - x.1.2.2.2.2.2.2.2.2.1.toNat) (fun x=>∃ (i:Nat) (a:Int),i≤j∧x=((NV l,ByteArray.mk #[],(),false,S p,(),(j:Int),a,(i:Int),()),NI (A.map fun n:Nat=>(n:Int)),()) ∧
    ((a=-1∧l[j]∉l.take i)∨(∃ x,hd.find? (fun x=>x.1 == l[j])=some x∧a=(x.2:Int)∧l[j]∈l.take i))) ?_ ⟨0,-1,by omega,rfl,.inl ⟨rfl,by simp⟩⟩
   rintro x ⟨i,a,hi,rfl,hm⟩ k' hk'
   unfold Lq26_1
   dsimp only
   rw [NV_len,NI_len,List.length_map,Int.toNat_natCast,Int.toNat_natCast]
   by_cases ei:i < j
   ·have e2:w64 ((i:Int)+1)=((i+1:Nat):Int):=by rw [w64_in (by omega) (by omega)]; omega
    have hti:l.take (i+1)=l.take i++[l[i]]:=List.take_succ_eq_append_getElem (by omega)
    have dec:j - (((i+1:Nat):Int)).toNat < j - ((i:Nat):Int).toNat:=by omega
    rw [if_pos (decide_eq_true (by omega)),if_pos (by omega)]
    refine asN (by omega) ?_
    rw [if_pos (by omega)]
    refine asN hj' ?_
    rw [S_eqB,e2]
    by_cases hq:l[i]=l[j]
    ·rw [if_pos (by simpa using hq),if_pos (by omega)]
     refine asNI (by rw [List.length_map]; omega) ?_
     rw [List.getElem_map]
     obtain ⟨y,f1,f2⟩:=hI.found i ei (by omega) (by omega)
     rw [hq] at f1
     refine hk' _ ⟨i+1,_,ei,rfl,.inr ⟨y,f1,by rw [f2],by rw [hti,hq]; simp⟩⟩ dec
    ·rw [if_neg (by simpa using hq)]
     refine hk' _ ⟨i+1,a,ei,rfl,?_⟩ dec
     rcases hm with ⟨m1,m2⟩ | ⟨y,m1,m2,m3⟩
     ·exact .inl ⟨m1,by rw [hti,List.mem_append,List.mem_singleton]; exact fun h=>h.elim m2 fun h=>hq h.symm⟩
     ·exact .inr ⟨y,m1,m2,by rw [hti]; exact List.mem_append_left _ m3⟩
   ·have:i=j:=by omega
    subst this
    rw [if_neg (dneg (by omega))]
    rcases hm with ⟨m1,m2⟩ | ⟨y,m1,m2,m3⟩
    ·have hc:(l.take i).contains l[i]=false:=by rw [Bool.eq_false_iff,ne_eq,List.contains_iff_mem]; exact m2
     rw [hc,if_neg (by simp)] at hp
     rw [if_pos (decide_eq_true (by omega)),if_pos (by omega)]
     refine asN hj' ?_
     have es3:S p++S l[i]++ByteArray.mk #[(0:UInt8)]=S (p++(l[i]++[0])):=by
      rw [S_append p l[i],← List.append_assoc]; exact S_append _ [0]
     have es2:ByteArray.size (S p++S l[i])=p.length+l[i].length:=by rw [S_append,S_size]; simp
     rw [S_size,S_size,es2,if_neg (by omega),if_neg (by omega)]
     simp only [lt]
     rw [List.length_singleton,if_pos (room8 _ (by omega)),e1,es3]
     have hno:hd.find? (fun x=>x.1 == l[i])=none:=by
      rw [List.find?_eq_none]
      intro x hx q
      exact m2 ((eq_of_beq q) ▸ hI.from' x hx)
     refine step _ _ _ ?_ (hI.new hj' hno)
     rw [← hp,poolN_congr (l.drop (i+1)) (l.take (i+1)) (l[i] :: l.take i) fun t=>by
      rw [ht,Bool.eq_iff_iff,List.contains_iff_mem,List.contains_iff_mem,List.mem_append,List.mem_singleton]
      exact ⟨fun h=>List.mem_cons.2 h.symm,fun h=>(List.mem_cons.1 h).symm⟩]
     simp only [List.length_append,List.length_singleton]
     omega
    ·have hc:(l.take i).contains l[i]=true:=by rw [List.contains_iff_mem]; exact m3
     rw [hc,if_pos rfl] at hp
     rw [m2,if_neg (dneg (by omega)),List.length_singleton,if_pos (room8 _ (by omega)),e1]
     refine step p hd _ ?_ (hI.had hj' m1)
     rw [← hp,poolN_congr (l.drop (i+1)) (l.take (i+1)) (l.take i) fun t=>by
      rw [ht,Bool.eq_iff_iff,List.contains_iff_mem,List.contains_iff_mem,List.mem_append,List.mem_singleton]
      exact ⟨fun h=>h.elim id fun h=>h ▸ m3,.inl⟩]
theorem wiPut {F:Bool} {l b:List UInt8} {N k:Nat} {n:Int} (h:WI (!F) l F b N) (hk:k=1∨k=4∨k=8):WI (!(F && fits k n)) (l++if fits k n=true then be k n else []) (F && fits k n) (b++be k n) (N+8):=by
 have:=h.step (n:=n) hk
 rwa [show (!F || !fits k n) = !(F && fits k n) by cases F <;> cases fits k n <;> rfl] at this
theorem iteAnd {a b:Bool} {P:Bool→Prop} (h:P (a && b)):if a=true then P b else P false:=by
 cases a
 ·rw [if_neg (by simp)]; exact h
 ·rw [if_pos rfl]; simpa using h
theorem nEncode (z:Zn) (hz:ZI z) (k:Nat) (hk:k=4∨k=8) {K:Bool→List V→Bool→Bool→Prop}
  (h1:(blockR z k).2=true→K true (B8 (blockB z k)) true false) (h2:(blockR z k).2=false→K false [] true true):Xq0y (tupZ z) (k:Int) K:=by
 unfold Xq0y Yq0y
 have hk3:k=1∨k=4∨k=8:=.inr hk
 have hty:=hz.ty
 have htr:=hz.tr
 have hlp:=hz.lp
 unfold blockR at h1 h2
 refine qCount z hz fun r=>?_
 cases hc:countOk z
 ·rw [if_pos (by rfl)]
  rw [hc,if_neg (by simp)] at h2
  exact h2 rfl
 rw [if_neg (by simp)]
 rw [hc] at h1 h2
 have hnm:((namesZ z).all abbrL && decide (poolN [] (namesZ z)≤256))=true:=by
  unfold countOk at hc
  simp only [Bool.and_eq_true] at hc ⊢
  exact hc.1.1.1.1.1
 have hns:∀ s∈namesZ z,s.length≤100:=fun s hs=>by
  obtain ⟨t,ht,rfl⟩:=List.mem_map.1 hs
  exact hz.nm t ht
 have pbd:=poolG_bd (namesZ z) [] [] 100 hns (by simp)
 have plen:(poolL (namesZ z)).2.length=z.ty.length:=by unfold poolL; rw [poolG_len]; simp [namesZ]
 have hnl:(namesZ z).length=z.ty.length:=by simp [namesZ]
 have pl1:(poolL (namesZ z)).1.length≤10100:=by
  have:=pbd.1
  rw [hnl] at this
  unfold poolL
  simp at this
  omega
 have pool:∀ {Q:ByteArray→Bool→List V→Bool→Bool→Prop},Q (S (poolL (namesZ z)).1) true (NI ((poolL (namesZ z)).2.map fun n:Nat=>(n:Int))) true false→Xq1m (tupZ z) (fun r4 r5 r6=>Xq26 r4 Q):=fun {Q} hQ=>by
  refine qNames z (by omega) ?_
  exact nPool (namesZ z) (by omega) (fun s hs=>by have:=hns s hs; omega) (fun _=>hQ) (fun q=>by rw [hnm] at q; cases q)
 suffices main:lp (Lq0y_0 Xq2a K) (((k:Int),(),(),false,S (poolL (namesZ z)).1,(),(),true,0,()),tupZ z,(NI ((poolL (namesZ z)).2.map fun n:Nat=>(n:Int)),true,false),([],true,false),()) by
  by_cases k4:k=4
  ·rw [if_neg (by simp [k4])]
   exact pool main
  ·have k8:k=8:=by omega
   rw [if_pos (by simp [k8]),if_neg (by simp [k8])]
   exact pool main
 generalize hP:(poolL (namesZ z)).1=P at *
 generalize hA:(poolL (namesZ z)).2=A at *
 refine lp_ind (fun x=>z.tr.length - x.1.2.2.2.2.2.2.2.2.1.toNat) (fun x=>∃ (j:Nat) (F:Bool) (l:List UInt8),j≤z.tr.length∧F=secF k (z.tr.take j)∧WI (!F) l F (secW k (z.tr.take j)) (8 * j) ∧
  x=(((k:Int),(),(),false,S P,(),(),F,(j:Int),()),tupZ z,(NI (A.map fun n:Nat=>(n:Int)),true,false),(B8 l,true,false),())) ?_ ⟨0,true,[],by omega,rfl,⟨rfl,fun _=>rfl,by simp⟩,rfl⟩
 rintro x ⟨j,F,l,hj,hF,hw,rfl⟩ k0 hk0
 unfold Lq0y_0
 dsimp only
 rw [show (tupZ z).2.1=RV z.tr from rfl,RV_len,Int.toNat_natCast]
 have hwl:=hw.len
 by_cases e:j < z.tr.length
 ·have e1:w64 ((j:Int)+1)=((j+1:Nat):Int):=by rw [w64_in (by omega) (by omega)]; omega
  rw [if_pos (decide_eq_true (by omega)),if_pos (by omega)]
  refine asR1 e ?_
  refine nPut l (by omega) k hk3 _ (fun _=>(hz.ti _ (List.getElem_mem e)).1) ?_
  rw [e1]
  have s:=wiPut hw (k:=k) (n:=(z.tr[j]).1) hk3
  refine iteAnd (P:=fun b=>k0 (((k:Int),(),(),false,S P,(),(),b,((j+1:Nat):Int),()),tupZ z,(NI (A.map fun n:Nat=>(n:Int)),true,false),(B8 (l++if fits k (z.tr[j]).1=true then be k (z.tr[j]).1 else []),true,false),())) ?_
  refine hk0 _ ⟨j+1,_,_,e,?_,?_,rfl⟩ (by show z.tr.length - ((j+1:Nat):Int).toNat < z.tr.length - ((j:Nat):Int).toNat; omega)
  ·unfold secF at hF ⊢; rw [take_allS _ _ _ e,hF]
  ·unfold secW at s ⊢
   rw [take_map_flat _ _ _ e]
   exact ⟨s.bad,s.eq,by have:=s.len; omega⟩
 have:j=z.tr.length:=by omega
 subst this
 rw [if_neg (dneg (by omega))]
 rw [List.take_length] at hw hF
 clear hk0
 refine lp_ind (fun x=>z.tr.length - x.1.2.2.2.2.2.2.2.2.1.toNat) (fun x=>∃ (j:Nat) (F:Bool) (l:List UInt8),j≤z.tr.length∧F=(secF k z.tr && kdF (z.tr.take j))∧WI (!F) l F (secW k z.tr++kdW (z.tr.take j)) (8 * z.tr.length+8 * j) ∧
  x=(((k:Int),(),(),false,S P,(),(),F,(j:Int),()),tupZ z,(NI (A.map fun n:Nat=>(n:Int)),true,false),(B8 l,true,false),())) ?_ ⟨0,F,l,by omega,by rw [hF]; simp [kdF],⟨rfl,fun q=>by rw [hw.eq q]; simp [kdW],by have:=hw.len; omega⟩,rfl⟩
 clear hw hwl hF
 rintro x ⟨j,F,l,hj,hF,hw,rfl⟩ k1 hk1
 unfold Lq0y_1
 dsimp only
 rw [show (tupZ z).2.1=RV z.tr from rfl,RV_len,Int.toNat_natCast]
 have hwl:=hw.len
 by_cases e:j < z.tr.length
 ·have e1:w64 ((j:Int)+1)=((j+1:Nat):Int):=by rw [w64_in (by omega) (by omega)]; omega
  rw [if_pos (decide_eq_true (by omega)),if_pos (by omega)]
  refine asR2 e ?_
  show Xq2a (B8 l) _ ((1:Nat):Int) _
  refine nPut l (by omega) 1 (.inl rfl) _ (by omega) ?_
  rw [e1]
  have s:=wiPut hw (k:=1) (n:=(z.tr[j]).2) (.inl rfl)
  refine iteAnd (P:=fun b=>k1 (((k:Int),(),(),false,S P,(),(),b,((j+1:Nat):Int),()),tupZ z,(NI (A.map fun n:Nat=>(n:Int)),true,false),(B8 (l++if fits 1 (z.tr[j]).2=true then be 1 (z.tr[j]).2 else []),true,false),())) ?_
  refine hk1 _ ⟨j+1,_,_,e,?_,?_,rfl⟩ (by show z.tr.length - ((j+1:Nat):Int).toNat < z.tr.length - ((j:Nat):Int).toNat; omega)
  ·unfold kdF at hF ⊢; rw [take_allS _ _ _ e,hF,Bool.and_assoc]
  ·unfold kdW at s ⊢
   rw [take_map_flat _ _ _ e,← List.append_assoc]
   exact ⟨s.bad,s.eq,by have:=s.len; omega⟩
 have:j=z.tr.length:=by omega
 subst this
 rw [if_neg (dneg (by omega))]
 rw [List.take_length] at hw hF
 clear hk1
 have hz1:(z.ty.zip A).length=z.ty.length:=by rw [List.length_zip,plen]; omega
 generalize hF0:(secF k z.tr && kdF z.tr)=F0 at *
 generalize hb0:secW k z.tr++kdW z.tr=b0 at *
 refine lp_ind (fun x=>z.ty.length - x.1.2.2.2.2.2.2.2.2.1.toNat) (fun x=>∃ (j:Nat) (F:Bool) (l:List UInt8),j≤z.ty.length∧F=(F0 && tyF ((z.ty.zip A).take j))∧WI (!F) l F (b0++tyW ((z.ty.zip A).take j)) (16 * z.tr.length+24 * j) ∧
  x=(((k:Int),(),(),false,S P,(),(),F,(j:Int),()),tupZ z,(NI (A.map fun n:Nat=>(n:Int)),true,false),(B8 l,true,false),())) ?_ ⟨0,F,l,by omega,by rw [hF]; simp [tyF],⟨rfl,fun q=>by rw [hw.eq q]; simp [tyW],by have:=hw.len; omega⟩,rfl⟩
 clear hw hwl hF
 rintro x ⟨j,F,l,hj,hF,hw,rfl⟩ k2 hk2
 unfold Lq0y_2
 dsimp only
 rw [show (tupZ z).1=TV z.ty from rfl,TV_len,NI_len,List.length_map,plen,Int.toNat_natCast]
 have hwl:=hw.len
 by_cases e:j < z.ty.length
 ·have e1:w64 ((j:Int)+1)=((j+1:Nat):Int):=by rw [w64_in (by omega) (by omega)]; omega
  have hx:0≤(j:Int)∧(j:Int) < (z.ty.length:Int):=by omega
  have hg:(z.ty.zip A)[j]'(by omega)=(z.ty[j],A[j]'(by omega)):=List.getElem_zip
  rw [if_pos (decide_eq_true (by omega)),if_pos hx]
  refine asT2 e ?_
  have s1:=wiPut hw (k:=4) (n:=(z.ty[j]).1) (.inr (.inl rfl))
  have l1:=s1.len
  have s2:=wiPut s1 (k:=1) (n:=if (z.ty[j]).2.1=true then 1 else 0) (.inl rfl)
  have l2:=s2.len
  have s3:=wiPut s2 (k:=1) (n:=((A[j]'(by omega):Nat):Int)) (.inl rfl)
  have f1:fits 1 (if (z.ty[j]).2.1=true then 1 else 0)=true:=by split <;> rfl
  have next:∀ b,b=((F && fits 4 (z.ty[j]).1) && fits 1 (if (z.ty[j]).2.1=true then 1 else 0) && fits 1 ((A[j]'(by omega):Nat):Int))→k2 (((k:Int),(),(),false,S P,(),(),b,((j+1:Nat):Int),()),tupZ z,(NI (A.map fun n:Nat=>(n:Int)),true,false),(B8 (((l++if fits 4 (z.ty[j]).1=true then be 4 (z.ty[j]).1 else [])++if fits 1 (if (z.ty[j]).2.1=true then 1 else 0)=true then be 1 (if (z.ty[j]).2.1=true then 1 else 0) else [])++if fits 1 ((A[j]'(by omega):Nat):Int)=true then be 1 ((A[j]'(by omega):Nat):Int) else []),true,false),()):=fun b hb=>by
   rw [hb]
   refine hk2 _ ⟨j+1,_,_,e,?_,?_,rfl⟩ (by show z.ty.length - ((j+1:Nat):Int).toNat < z.ty.length - ((j:Nat):Int).toNat; omega)
   ·unfold tyF at hF ⊢
    rw [take_allS _ _ _ (by omega),hg,hF]
    dsimp only
    simp only [Bool.and_assoc]
   ·unfold tyW at s3 ⊢
    rw [take_map_flat _ _ _ (by omega),hg]
    dsimp only
    simp only [← List.append_assoc] at s3 ⊢
    exact ⟨s3.bad,s3.eq,by have:=s3.len; omega⟩
  have hone:∀ (d:Int),d=(if (z.ty[j]).2.1=true then 1 else 0)→(if 0≤(j:Int)∧(j:Int) < (z.ty.length:Int) then Eng.asInt IntKind.i64 (getC (TV z.ty) j 0) False (fun n29=>Xq2a (B8 l) n29 4 (fun r30 r31 r32 r33=>if F=true then Xq2a r31 d 1 (fun r34 r35 r36 r37=>if 0≤(j:Int)∧(j:Int) < (z.ty.length:Int) then Eng.asInt IntKind.i64 (getC (NI (A.map fun n:Nat=>(n:Int))) j 0) False (fun n38=>Xq2a r35 n38 1 (fun r39 r40 r41 r42=>if r30=true then k2 (((k:Int),(),(),false,S P,(),(),r39,w64 ((j:Int)+1),()),tupZ z,(NI (A.map fun n:Nat=>(n:Int)),true,false),(r40,r41,r42),()) else k2 (((k:Int),(),(),false,S P,(),(),false,w64 ((j:Int)+1),()),tupZ z,(NI (A.map fun n:Nat=>(n:Int)),true,false),(r40,r41,r42),()))) else False)
    else Xq2a r31 d 1 (fun r43 r44 r45 r46=>if 0≤(j:Int)∧(j:Int) < (z.ty.length:Int) then Eng.asInt IntKind.i64 (getC (NI (A.map fun n:Nat=>(n:Int))) j 0) False (fun n47=>Xq2a r44 n47 1 (fun r48 r49 r50 r51=>k2 (((k:Int),(),(),false,S P,(),(),false,w64 ((j:Int)+1),()),tupZ z,(NI (A.map fun n:Nat=>(n:Int)),true,false),(r49,r50,r51),()))) else False))) else False):=fun d hd=>by
   rw [if_pos hx]
   refine asT1 e ?_
   show Xq2a (B8 l) _ ((4:Nat):Int) _
   refine nPut l (by omega) 4 (.inr (.inl rfl)) _ (by omega) ?_
   have fin:∀ {Q:Bool→List V→Bool→Bool→Prop},Q (fits 1 ((A[j]'(by omega):Nat):Int)) (B8 (((l++if fits 4 (z.ty[j]).1=true then be 4 (z.ty[j]).1 else [])++if fits 1 (if (z.ty[j]).2.1=true then 1 else 0)=true then be 1 (if (z.ty[j]).2.1=true then 1 else 0) else [])++if fits 1 ((A[j]'(by omega):Nat):Int)=true then be 1 ((A[j]'(by omega):Nat):Int) else [])) true false →
     Xq2a (B8 (l++if fits 4 (z.ty[j]).1=true then be 4 (z.ty[j]).1 else [])) d 1 (fun r34 r35 r36 r37=>if 0≤(j:Int)∧(j:Int) < (z.ty.length:Int) then Eng.asInt IntKind.i64 (getC (NI (A.map fun n:Nat=>(n:Int))) j 0) False (fun n38=>Xq2a r35 n38 1 Q) else False):=fun {Q} hQ=>by
    show Xq2a _ _ ((1:Nat):Int) _
    refine nPut _ (by omega) 1 (.inl rfl) d (by omega) ?_
    rw [if_pos hx]
    refine asNI (by rw [List.length_map,plen]; exact e) ?_
    rw [List.getElem_map,hd]
    show Xq2a _ _ ((1:Nat):Int) _
    exact nPut _ (by omega) 1 (.inl rfl) _ (by omega) hQ
   rw [e1]
   cases hFv:F
   ·rw [if_neg (by simp)]
    refine fin ?_
    exact next false (by rw [hFv]; rfl)
   ·rw [if_pos rfl]
    refine fin ?_
    cases h4:fits 4 (z.ty[j]).1
    ·rw [if_neg (by simp)]
     have:=next false (by rw [h4,Bool.and_false]; rfl)
     rw [h4] at this
     exact this
    ·rw [if_pos rfl]
     have:=next (fits 1 ((A[j]'(by omega):Nat):Int)) (by rw [hFv,h4,f1]; rfl)
     rw [h4] at this
     exact this
  cases hd:(z.ty[j]).2.1
  ·rw [if_neg (by simp)]
   exact hone 0 (by rw [hd]; rfl)
  ·rw [if_pos rfl]
   exact hone 1 (by rw [hd]; rfl)
 have:j=z.ty.length:=by omega
 subst this
 rw [if_neg (dneg (by omega))]
 rw [← hz1,List.take_length,hz1] at hw
 rw [← hz1,List.take_length] at hF
 clear hk2
 rw [if_pos rfl,bytesV_S,if_pos (room1 _ (by rw [B8_len,B8_len]; omega)),B8_app]
 generalize hF1:(F0 && tyF (z.ty.zip A))=F1 at *
 generalize hb1:b0++tyW (z.ty.zip A)=b1 at *
 refine lp_ind (fun x=>z.lp.length - x.1.2.2.2.2.2.2.1.toNat) (fun x=>∃ (j:Nat) (F:Bool) (l:List UInt8),j≤z.lp.length∧F=(F1 && lpF k (z.lp.take j))∧WI (!F) l F (b1++P++lpW k (z.lp.take j)) (70000+16 * j) ∧
  x=(((k:Int),(),(),false,(),F,(j:Int),()),tupZ z,(B8 l,true,false),())) ?_ ⟨0,F,l++P,by omega,by rw [hF]; simp [lpF],⟨rfl,fun q=>by rw [hw.eq q]; simp [lpW],by have:=hw.len; rw [List.length_append]; omega⟩,rfl⟩
 clear hw hwl hF
 rintro x ⟨j,F,l,hj,hF,hw,rfl⟩ k3 hk3'
 unfold Lq0y_3
 dsimp only
 rw [show (tupZ z).2.2.1=RV z.lp from rfl,RV_len,Int.toNat_natCast]
 have hwl:=hw.len
 by_cases e:j < z.lp.length
 ·have e1:w64 ((j:Int)+1)=((j+1:Nat):Int):=by rw [w64_in (by omega) (by omega)]; omega
  have hx:0≤(j:Int)∧(j:Int) < (z.lp.length:Int):=by omega
  rw [if_pos (decide_eq_true (by omega)),if_pos hx]
  refine asR1 e ?_
  refine nPut l (by omega) k hk3 _ (fun _=>(hz.ri _ (List.getElem_mem e)).1) ?_
  have s1:=wiPut hw (k:=k) (n:=(z.lp[j]).1) hk3
  have l1:=s1.len
  have s2:=wiPut s1 (k:=4) (n:=(z.lp[j]).2) (.inr (.inl rfl))
  rw [e1]
  have next:∀ b,b=((F && fits k (z.lp[j]).1) && fits 4 (z.lp[j]).2)→k3 (((k:Int),(),(),false,(),b,((j+1:Nat):Int),()),tupZ z,(B8 ((l++if fits k (z.lp[j]).1=true then be k (z.lp[j]).1 else [])++if fits 4 (z.lp[j]).2=true then be 4 (z.lp[j]).2 else []),true,false),()):=fun b hb=>by
   rw [hb]
   refine hk3' _ ⟨j+1,_,_,e,?_,?_,rfl⟩ (by show z.lp.length - ((j+1:Nat):Int).toNat < z.lp.length - ((j:Nat):Int).toNat; omega)
   ·unfold lpF at hF ⊢
    rw [take_allS _ _ _ e,hF]
    simp only [Bool.and_assoc]
   ·unfold lpW at s2 ⊢
    rw [take_map_flat _ _ _ e]
    simp only [← List.append_assoc] at s2 ⊢
    exact ⟨s2.bad,s2.eq,by have:=s2.len; omega⟩
  cases hFv:F
  ·rw [if_neg (by simp),if_pos hx]
   refine asR2 e ?_
   show Xq2a _ _ ((4:Nat):Int) _
   refine nPut _ (by omega) 4 (.inr (.inl rfl)) _ (by omega) ?_
   exact next false (by rw [hFv]; rfl)
  ·rw [if_pos rfl,if_pos hx]
   refine asR2 e ?_
   show Xq2a _ _ ((4:Nat):Int) _
   refine nPut _ (by omega) 4 (.inr (.inl rfl)) _ (by omega) ?_
   cases h4:fits k (z.lp[j]).1
   ·rw [if_neg (by simp)]
    have:=next false (by rw [h4,Bool.and_false]; rfl)
    rw [h4] at this
    exact this
   ·rw [if_pos rfl]
    have:=next (fits 4 (z.lp[j]).2) (by rw [hFv,h4]; rfl)
    rw [h4] at this
    exact this
 have:j=z.lp.length:=by omega
 subst this
 rw [if_neg (dneg (by omega))]
 rw [List.take_length] at hw hF
 have hB:blockF z k=(F1 && lpF k z.lp):=by unfold blockF; rw [hA,hF0,hF1]
 have hBB:blockB z k=b1++P++lpW k z.lp:=by unfold blockB; rw [hA,hP,hb0,hb1]
 rw [hB,← hF] at h1 h2
 rw [hBB] at h1
 cases hFv:F
 ·rw [hFv,if_neg (by simp)] at h2
  rw [if_pos (by rfl)]
  exact h2 rfl
 ·rw [hFv,if_pos ⟨rfl,rfl⟩] at h1
  rw [if_neg (by simp),hw.eq hFv]
  exact h1 rfl
end Go.Proofs.YtbnpclndiichcaaGreatDoor
end
section
set_option linter.unusedVariables false
set_option linter.unusedSimpArgs false
namespace Go.Proofs.YtbnpclndiichcaaGreatDoor
open Go Go.Proofs.YtbnpclndiichcaaGreatDoor.Eng Go.Proofs.YtbnpclndiichcaaGreatDoor.Pl
set_option maxRecDepth 100000
set_option maxHeartbeats 4000000
theorem nMarks (l:List UInt8) (hl:l.length≤1000000) {K:Bool→Prop} (h:K (l.all fun c=>decide (c.toNat≤1))):Xq1e (B8 l) K:=by
 unfold Xq1e Yq1e
 refine lp_ind (fun x=>l.length - x.1.2.2.1.toNat) (fun x=>∃ j:Nat,j≤l.length∧(l.take j).all (fun c=>decide (c.toNat≤1))=true∧x=((B8 l,false,(j:Int),()),())) ?_ ⟨0,by omega,by simp,rfl⟩
 rintro x ⟨j,hj,hall,rfl⟩ k hk
 unfold Lq1e_0
 dsimp only
 rw [B8_len,Int.toNat_natCast]
 by_cases e:j < l.length
 ·have e1:w64 ((j:Int)+1)=((j+1:Nat):Int):=by rw [w64_in (by omega) (by omega)]; omega
  rw [if_pos (decide_eq_true (by omega)),if_pos (by omega),e1]
  refine asB8 e ?_
  by_cases c:((l[j]).toNat:Int) > 1
  ·rw [if_pos (decide_eq_true c)]
   have:l.all (fun c=>decide (c.toNat≤1))=false:=by
    rw [Bool.eq_false_iff]; intro q
    have:=of_decide_eq_true (List.all_eq_true.1 q _ (List.getElem_mem e)); omega
   rw [this] at h; exact h
  ·rw [if_neg (dneg c)]
   refine hk _ ⟨j+1,e,?_,rfl⟩ (by show l.length - ((j+1:Nat):Int).toNat < l.length - ((j:Nat):Int).toNat; omega)
   rw [List.take_succ_eq_append_getElem e,List.all_append,hall]
   simp; omega
 ·have:j=l.length:=by omega
  subst this
  rw [if_neg (dneg (by omega))]
  rw [List.take_length] at hall
  rw [hall] at h; exact h
def mkR (sd ut:List UInt8) (j:Nat):Bool:=(List.range j).all fun i=>!(ut.getD i 0 == 1) || (decide (i < sd.length) && !(sd.getD i 0 == 0))
theorem mkR_ok (sd ut:List UInt8) (m1:sd.all (fun c=>decide (c.toNat≤1))=true):mkR sd ut ut.length=(List.range ut.length).all fun i=>!(ut.getD i 0 == 1) || sd.getD i 0 == 1:=by
 have:(fun i=>!(ut.getD i 0 == 1) || (decide (i < sd.length) && !(sd.getD i 0 == 0)))=fun i=>!(ut.getD i 0 == 1) || sd.getD i 0 == 1:=by
  funext i
  congr 1
  by_cases e:i < sd.length
  ·have hc:=of_decide_eq_true (List.all_eq_true.1 m1 _ (List.getElem_mem e))
   rw [decide_eq_true e,Bool.true_and,List.getD_eq_getElem?_getD,List.getElem?_eq_getElem e,Option.getD_some]
   have:sd[i]=0∨sd[i]=1:=by
    have:(sd[i]).toNat=0∨(sd[i]).toNat=1:=by omega
    rcases this with q | q
    ·exact .inl (UInt8.toNat_inj.1 q)
    ·exact .inr (UInt8.toNat_inj.1 q)
   rcases this with q | q <;> rw [q] <;> rfl
  ·rw [decide_eq_false e,Bool.false_and,List.getD_eq_getElem?_getD,List.getElem?_eq_none (by omega)]; rfl
 unfold mkR
 rw [this]
abbrev zcA:Unit×Unit×Unit×ByteArray×Int×Unit:=((),(),(),ByteArray.mk #[],0,())
abbrev zcV (v:Int):Unit×Unit×Unit×ByteArray×Int×Unit:=((),(),(),ByteArray.mk #[],v,())
abbrev DK:=Unit×Unit×Unit×ByteArray×Int×Unit→Bool→List V→Bool→Bool→List V→Bool→Bool→List V→Bool→Bool→Prop
theorem nL11 (v:Int) (sd ut:List UInt8) (hs:sd.length≤1000000) (hu:ut.length≤1000000) (ok:Bool) (tr ty lp':List V) {K:DK} (k0 k1 k2 k3 k4:_→Prop)
  (h1:(ok && markOk sd ut)=true→K (zcV v) true ty true false tr true false lp' true false)
  (h2:(ok && markOk sd ut)=false→K zcA false [] true true [] true true [] true true) :
  lp (Lq0w_11 K k0 k1 k2 k3 k4) (((),false,(),ok,(),(),sd.all (fun c=>decide (c.toNat≤1)),ut.all (fun c=>decide (c.toNat≤1)),(0:Int),()),zcA,zcV v,(B8 sd,true,false),(B8 ut,true,false),tr,ty,lp',()):=by
 refine lp_ind (fun x=>ut.length - x.1.2.2.2.2.2.2.2.2.1.toNat) (fun x=>∃ j:Nat,j≤ut.length∧x=(((),false,(),ok && mkR sd ut j,(),(),sd.all (fun c=>decide (c.toNat≤1)),ut.all (fun c=>decide (c.toNat≤1)),(j:Int),()),zcA,zcV v,(B8 sd,true,false),(B8 ut,true,false),tr,ty,lp',())) ?_ ⟨0,by omega,by simp [mkR]⟩
 rintro x ⟨j,hj,rfl⟩ k hk
 unfold Lq0w_11
 dsimp only
 rw [B8_len,B8_len,Int.toNat_natCast]
 by_cases e:j < ut.length
 ·have e1:w64 ((j:Int)+1)=((j+1:Nat):Int):=by rw [w64_in (by omega) (by omega)]; omega
  rw [if_pos (decide_eq_true (by omega)),if_pos (by omega),e1]
  refine asB8 e ?_
  have gu:ut.getD j 0=ut[j]:=by rw [List.getD_eq_getElem?_getD,List.getElem?_eq_getElem e]; rfl
  have hm:mkR sd ut (j+1)=(mkR sd ut j && (!(ut[j] == 1) || (decide (j < sd.length) && !(sd.getD j 0 == 0)))):=by
   unfold mkR; rw [List.range_succ,List.all_append,List.all_cons,List.all_nil,Bool.and_true,gu]
  have next:∀ b,b=(ok && mkR sd ut (j+1))→k (((),false,(),b,(),(),sd.all (fun c=>decide (c.toNat≤1)),ut.all (fun c=>decide (c.toNat≤1)),((j+1:Nat):Int),()),zcA,zcV v,(B8 sd,true,false),(B8 ut,true,false),tr,ty,lp',()):=fun b hb=>by
   rw [hb]
   exact hk _ ⟨j+1,e,rfl⟩ (by show ut.length - ((j+1:Nat):Int).toNat < ut.length - ((j:Nat):Int).toNat; omega)
  by_cases u1:ut[j]=1
  ·rw [if_pos (by simp [u1])]
   rw [u1] at hm
   by_cases s1:(j:Int)≥(sd.length:Int)
   ·rw [if_pos (decide_eq_true s1)]
    refine next false ?_
    rw [hm,decide_eq_false (by omega)]; simp
   ·rw [if_neg (dneg s1),if_pos (by omega)]
    have es:j < sd.length:=by omega
    have gs:sd.getD j 0=sd[j]:=by rw [List.getD_eq_getElem?_getD,List.getElem?_eq_getElem es]; rfl
    refine asB8 es ?_
    rw [gs,decide_eq_true es] at hm
    by_cases s0:sd[j]=0
    ·rw [if_pos (by simp [s0])]
     refine next false ?_
     rw [hm,s0]; simp
    ·rw [if_neg (by
      rw [beq_iff_eq]; intro q
      exact s0 (UInt8.toNat_inj.1 (show (sd[j]).toNat=0 by omega)))]
     refine next _ ?_
     rw [hm,show (sd[j] == 0)=false by simpa using s0]; simp
  ·rw [if_neg (by
    rw [beq_iff_eq]; intro q
    exact u1 (UInt8.toNat_inj.1 (show (ut[j]).toNat=1 by omega)))]
   refine next _ ?_
   rw [hm,show (ut[j] == 1)=false by simpa using u1]; simp
 ·have:j=ut.length:=by omega
  subst this
  rw [if_neg (dneg (by omega))]
  unfold markOk at h1 h2
  cases hok:(ok && mkR sd ut ut.length)
  ·rw [if_pos (by rfl)]
   refine h2 ?_
   cases m1:sd.all (fun c=>decide (c.toNat≤1))
   ·simp
   ·rw [← mkR_ok sd ut m1]
    cases ok
    ·rfl
    ·rw [Bool.true_and] at hok; rw [hok]; simp
  ·rw [if_neg (by simp)]
   rw [Bool.and_eq_true] at hok
   cases m1:sd.all (fun c=>decide (c.toNat≤1))
   ·rw [if_pos (by rfl)]
    exact h2 (by rw [m1]; simp)
   ·rw [if_neg (by simp)]
    cases m2:ut.all (fun c=>decide (c.toNat≤1))
    ·rw [if_pos (by rfl)]
     exact h2 (by rw [m2]; simp)
    ·rw [if_neg (by simp)]
     refine h1 ?_
     rw [m1,m2,← mkR_ok sd ut m1,hok.1,hok.2]; rfl
theorem nL10 {h:Hd} {b:List UInt8} {k:Nat} (B:BI h b k) (tr:List Rec) (ty:List Ty) (ok o f:Bool) {K:DK} (k1 k2 k3 k4:_→Prop)
  (h1:(ok && markOk ((b.drop (oSd h k)).take h.sd.toNat) ((b.drop (oUt h k)).take h.ut.toNat))=true→K (zcV h.v) true (TV ty) true false (RV tr) true false (RV (lpD k h.lp.toNat (b.drop (oLp h k)))) true false)
  (h2:(ok && markOk ((b.drop (oSd h k)).take h.sd.toNat) ((b.drop (oUt h k)).take h.ut.toNat))=false→K zcA false [] true true [] true true [] true true) :
  lp (Lq0w_10 Xq0f Xq0e Xq1e K k1 k2 k3 k4) (((k:Int),(),(),false,(),(),ok,(0:Int),()),tupHd h,zcA,zcV h.v,((),false,()),(B8 (b.drop (oLp h k)),o,f),RV tr,TV ty,[],()):=by
 have hk3:k=1∨k=4∨k=8:=.inr B.kk
 have o9:=head_ok B.ok
 have hb:=B.len
 have hbd:=B.bd
 have q4:oSd h k=oLp h k+(k+4) * h.lp.toNat:=rfl
 have q5:oUt h k=oSd h k+h.sd.toNat:=rfl
 have eS:h.sd=((h.sd.toNat:Nat):Int):=by have:=o9.sd; have:=o9.ty; omega
 have eU:h.ut=((h.ut.toNat:Nat):Int):=by have:=o9.ut; have:=o9.ty; omega
 have hL:=lpD_len k h.lp.toNat (b.drop (oLp h k))
 have hg:=lpD_get k h.lp.toNat (b.drop (oLp h k))
 have hl200:=o9.lp
 generalize lpD k h.lp.toNat (b.drop (oLp h k))=L at *
 refine lp_ind (fun x=>h.lp.toNat - x.1.2.2.2.2.2.2.2.1.toNat) (fun x=>∃ (j:Nat) (o f:Bool),j≤h.lp.toNat∧x=(((k:Int),(),(),false,(),(),ok,(j:Int),()),tupHd h,zcA,zcV h.v,((),false,()),(B8 (b.drop (oLp h k+(k+4) * j)),o,f),RV tr,TV ty,RV (L.take j),())) ?_ ⟨0,o,f,by omega,rfl⟩
 rintro x ⟨j,o,f,hj,rfl⟩ k' hk'
 unfold Lq0w_10
 dsimp only
 have hlp:(tupHd h).2.2.2.1=h.lp:=rfl
 by_cases e:j < h.lp.toNat
 ·have e1:w64 ((j:Int)+1)=((j+1:Nat):Int):=by rw [w64_in (by omega) (by omega)]; omega
  have m1:(k+4) * (j+1)=(k+4) * j+(k+4):=Nat.mul_succ _ _
  have m2:(k+4) * (j+1)≤(k+4) * h.lp.toNat:=Nat.mul_le_mul_left _ e
  have hgj:=hg j (by omega)
  have ht:L.take (j+1)=L.take j++[L[j]'(by omega)]:=List.take_succ_eq_append_getElem (by omega)
  rw [if_pos (show decide ((j:Int) < (tupHd h).2.2.2.1)=true from decide_eq_true (by rw [hlp]; omega))]
  refine nNumS k hk3 _ (by rw [List.length_drop]; omega) (by rw [List.length_drop]; omega) o f ?_
  rw [List.drop_drop]
  show Xq0f ((4:Nat):Int) _ _ _ _ _
  refine nNumS 4 (.inr (.inl rfl)) _ (by rw [List.length_drop]; omega) (by rw [List.length_drop]; omega) false true ?_
  rw [List.drop_drop,show oLp h k+(k+4) * j+k+4=oLp h k+(k+4) * (j+1) by omega]
  have lenL:(RV (L.take j)).length=j:=by rw [RV_len,List.length_take]; omega
  rw [if_pos (room16 _ (by rw [lenL]; simp; omega)),e1,RV_snoc]
  have eLj:(numB ((b.drop (oLp h k+(k+4) * j)).take k),numB ((b.drop (oLp h k+(k+4) * j+k)).take 4))=L[j]'(by omega):=by
   rw [hgj,List.drop_drop,List.drop_drop,Nat.add_assoc (oLp h k)]
  rw [eLj,← ht]
  refine hk' _ ⟨j+1,false,true,e,rfl⟩ (by show h.lp.toNat - ((j+1:Nat):Int).toNat < h.lp.toNat - ((j:Nat):Int).toNat; omega)
 ·have:j=h.lp.toNat:=by omega
  subst this
  rw [if_neg (show ¬ decide (((h.lp.toNat:Nat):Int) < (tupHd h).2.2.2.1)=true from dneg (by rw [hlp]; omega)),← q4]
  rw [List.take_of_length_le (by omega)]
  show Xq0e h.sd false (B8 (b.drop (oSd h k))) o f _
  rw [eS]
  refine nTakeS _ _ (by rw [List.length_drop]; omega) (by rw [List.length_drop]; omega) o f ?_
  rw [List.drop_drop,← q5]
  show Xq0e h.ut false (B8 (b.drop (oUt h k))) false true _
  rw [eU]
  refine nTakeS _ _ (by rw [List.length_drop]; omega) (by rw [List.length_drop]; omega) false true ?_
  refine nMarks _ (by rw [List.length_take,List.length_drop]; omega) ?_
  refine nMarks _ (by rw [List.length_take,List.length_drop]; omega) ?_
  exact nL11 h.v _ _ (by rw [List.length_take,List.length_drop]; omega) (by rw [List.length_take,List.length_drop]; omega) ok _ _ _ k1 k2 k3 k4 k' h1 h2
theorem nL9 {h:Hd} {b:List UInt8} {k:Nat} (B:BI h b k) (tr:List Rec) (o f:Bool) {K:DK} (k1 k2 k3:_→Prop)
  (h1:blockK h b k=true→K (zcV h.v) true (TV ((tysD h b k).map fun x=>(x.1,x.2.1 == 1,(abbrAt (chD h b k) x.2.2).1))) true false (RV tr) true false (RV (lpD k h.lp.toNat (b.drop (oLp h k)))) true false)
  (h2:blockK h b k=false→K zcA false [] true true [] true true [] true true) :
  lp (Lq0w_9 Xq2h Xq0f Xq0e Xq1e K k1 k2 k3) (((k:Int),(),(),false,(),(),(),(tysD h b k).all (fun x=>decide (x.2.1 < 2)),S (chD h b k),(0:Int),()),tupHd h,zcA,zcV h.v,((),false,()),(B8 (b.drop (oLp h k)),o,f),NI ((tysD h b k).map (·.2.2)),RV tr,TV ((tysD h b k).map fun x=>(x.1,x.2.1 == 1,[])),()):=by
 have o9:=head_ok B.ok
 have hty:=o9.ty
 have hch:=o9.ch
 have hpl:(chD h b k).length≤1000000:=by unfold chD; rw [List.length_take]; omega
 have hT:(tysD h b k).length=h.ty.toNat:=tyD_len _ _
 unfold blockK at h1 h2
 generalize tysD h b k=T at *
 generalize chD h b k=p at *
 refine lp_ind (fun x=>h.ty.toNat - x.1.2.2.2.2.2.2.2.2.2.1.toNat) (fun x=>∃ (j:Nat) (l:List Ty),j≤h.ty.toNat∧l.length=T.length∧(∀ i (hi:i < T.length),l[i]? = some ((T[i]).1,(T[i]).2.1 == 1,if i < j then (abbrAt p (T[i]).2.2).1 else [])) ∧
  x=(((k:Int),(),(),false,(),(),(),T.all (fun x=>decide (x.2.1 < 2)) && (T.take j).all (fun x=>(abbrAt p x.2.2).2),S p,(j:Int),()),tupHd h,zcA,zcV h.v,((),false,()),(B8 (b.drop (oLp h k)),o,f),NI (T.map (·.2.2)),RV tr,TV l,())) ?_ ⟨0,T.map fun x=>((x.1,x.2.1 == 1,[]):Ty),by omega,by rw [List.length_map],fun i hi=>by rw [List.getElem?_map,List.getElem?_eq_getElem hi]; rfl,by rw [List.take_zero,List.all_nil,Bool.and_true]; rfl⟩
 rintro x ⟨j,l,hj,hl,hg,rfl⟩ k' hk'
 unfold Lq0w_9
 dsimp only
 have hte:(tupHd h).2.2.2.2.2.1=h.ty:=rfl
 by_cases e:j < h.ty.toNat
 ·have e1:w64 ((j:Int)+1)=((j+1:Nat):Int):=by rw [w64_in (by omega) (by omega)]; omega
  have hjT:j < T.length:=by omega
  have hjl:j < l.length:=by omega
  have ht:T.take (j+1)=T.take j++[T[j]]:=List.take_succ_eq_append_getElem hjT
  rw [if_pos (show decide ((j:Int) < (tupHd h).2.2.2.2.2.1)=true from decide_eq_true (by rw [hte]; omega)),NI_len,TV_len,List.length_map,Int.toNat_natCast,if_pos (by omega)]
  refine NI_get (by rw [List.length_map]; exact hjT) ?_
  rw [List.getElem_map]
  refine nAt p hpl _ ?_
  rw [if_pos (by omega),if_pos hjl,TV_set2 l j hjl,e1]
  have hlj:l[j]=((T[j]).1,(T[j]).2.1 == 1,[]):=by
   have:=hg j hjT
   rw [List.getElem?_eq_getElem hjl,if_neg (by omega)] at this
   exact Option.some.inj this
  have hall:(T.take (j+1)).all (fun x=>(abbrAt p x.2.2).2)=((T.take j).all (fun x=>(abbrAt p x.2.2).2) && (abbrAt p (T[j]).2.2).2):=by
   rw [ht,List.all_append]; simp
  refine iteAnd (P:=fun c=>k' (((k:Int),(),(),false,(),(),(),c,S p,((j+1:Nat):Int),()),tupHd h,zcA,zcV h.v,((),false,()),(B8 (b.drop (oLp h k)),o,f),NI (T.map (·.2.2)),RV tr,TV (l.set j ((l[j]).1,(l[j]).2.1,(abbrAt p (T[j]).2.2).1)),())) ?_
  refine hk' _ ⟨j+1,l.set j ((l[j]).1,(l[j]).2.1,(abbrAt p (T[j]).2.2).1),e,by rw [List.length_set]; exact hl,fun i hi=>?_,by rw [hall,Bool.and_assoc]⟩ (by show h.ty.toNat - ((j+1:Nat):Int).toNat < h.ty.toNat - ((j:Nat):Int).toNat; omega)
  rw [List.getElem?_set]
  by_cases hij:j=i
  ·subst hij
   rw [if_pos rfl,if_pos hjl,hlj,if_pos (by omega)]
  ·rw [if_neg hij,hg i hi]
   by_cases hlt:i < j
   ·rw [if_pos hlt,if_pos (by omega)]
   ·rw [if_neg hlt,if_neg (by omega)]
 ·have:j=h.ty.toNat:=by omega
  subst this
  rw [if_neg (show ¬ decide (((h.ty.toNat:Nat):Int) < (tupHd h).2.2.2.2.2.1)=true from dneg (by rw [hte]; omega))]
  have el:l=T.map fun x=>(x.1,x.2.1 == 1,(abbrAt p x.2.2).1):=by
   refine List.ext_getElem? fun i=>?_
   by_cases hi:i < T.length
   ·rw [hg i hi,if_pos (by omega),List.getElem?_map,List.getElem?_eq_getElem hi]; rfl
   ·rw [List.getElem?_eq_none (by omega),List.getElem?_eq_none (by rw [List.length_map]; omega)]
  rw [el,List.take_of_length_le (by omega)]
  exact nL10 B tr _ _ o f k1 k2 k3 k' h1 h2
theorem nL8 {h:Hd} {b:List UInt8} {k:Nat} (B:BI h b k) (tr:List Rec) (o f:Bool) {K:DK} (k1 k2:_→Prop)
  (h1:blockK h b k=true→K (zcV h.v) true (TV ((tysD h b k).map fun x=>(x.1,x.2.1 == 1,(abbrAt (chD h b k) x.2.2).1))) true false (RV tr) true false (RV (lpD k h.lp.toNat (b.drop (oLp h k)))) true false)
  (h2:blockK h b k=false→K zcA false [] true true [] true true [] true true) :
  lp (Lq0w_8 Xq0f Xq0e Xq2h Xq1e K k1 k2) (((k:Int),(),(),false,(),(),(),true,(0:Int),()),tupHd h,zcA,zcV h.v,((),false,()),(B8 (b.drop (oTy h k)),o,f),[],RV tr,[],()):=by
 have o9:=head_ok B.ok
 have hty:=o9.ty
 have hch:=o9.ch
 have hb:=B.len
 have hbd:=B.bd
 have q2:oCh h k=oTy h k+6 * h.ty.toNat:=rfl
 have q3:oLp h k=oCh h k+h.ch.toNat:=rfl
 have q4:oSd h k=oLp h k+(k+4) * h.lp.toNat:=rfl
 have q5:oUt h k=oSd h k+h.sd.toNat:=rfl
 have eC:h.ch=((h.ch.toNat:Nat):Int):=by omega
 have hT:(tysD h b k).length=h.ty.toNat:=tyD_len _ _
 have hg:=tyD_get h.ty.toNat (b.drop (oTy h k))
 refine lp_ind (fun x=>h.ty.toNat - x.1.2.2.2.2.2.2.2.2.1.toNat) (fun x=>∃ (j:Nat) (o f:Bool),j≤h.ty.toNat∧x=(((k:Int),(),(),false,(),(),(),((tysD h b k).take j).all (fun x=>decide (x.2.1 < 2)),(j:Int),()),tupHd h,zcA,zcV h.v,((),false,()),(B8 (b.drop (oTy h k+6 * j)),o,f),NI (((tysD h b k).take j).map (·.2.2)),RV tr,TV (((tysD h b k).take j).map fun x=>(x.1,x.2.1 == 1,[])),())) ?_ ⟨0,o,f,by omega,rfl⟩
 rintro x ⟨j,o,f,hj,rfl⟩ k' hk'
 unfold Lq0w_8
 dsimp only
 have hte:(tupHd h).2.2.2.2.2.1=h.ty:=rfl
 by_cases e:j < h.ty.toNat
 ·have e1:w64 ((j:Int)+1)=((j+1:Nat):Int):=by rw [w64_in (by omega) (by omega)]; omega
  have hjT:j < (tysD h b k).length:=by omega
  have hgj:(tysD h b k)[j]=_:=hg j hjT
  rw [List.drop_drop,List.drop_drop,List.drop_drop] at hgj
  have ht:(tysD h b k).take (j+1)=(tysD h b k).take j++[(tysD h b k)[j]]:=List.take_succ_eq_append_getElem hjT
  rw [if_pos (show decide ((j:Int) < (tupHd h).2.2.2.2.2.1)=true from decide_eq_true (by rw [hte]; omega))]
  show Xq0f ((4:Nat):Int) _ _ _ _ _
  refine nNumS 4 (.inr (.inl rfl)) _ (by rw [List.length_drop]; omega) (by rw [List.length_drop]; omega) o f ?_
  rw [List.drop_drop]
  show Xq0f ((1:Nat):Int) _ _ _ _ _
  refine nNumS 1 (.inl rfl) _ (by rw [List.length_drop]; omega) (by rw [List.length_drop]; omega) false true ?_
  rw [List.drop_drop,show oTy h k+6 * j+4+1=oTy h k+6 * j+5 from rfl]
  have lenT:(TV (((tysD h b k).take j).map fun x=>((x.1,x.2.1 == 1,[]):Ty))).length=j:=by rw [TV_len,List.length_map,List.length_take]; omega
  have lenA:(NI (((tysD h b k).take j).map (·.2.2))).length=j:=by rw [NI_len,List.length_map,List.length_take]; omega
  rw [if_pos (room32 _ (by rw [lenT]; simp; omega))]
  simp only [lt]
  show Xq0f ((1:Nat):Int) _ _ _ _ _
  refine nNumS 1 (.inl rfl) _ (by rw [List.length_drop]; omega) (by rw [List.length_drop]; omega) false true ?_
  rw [List.drop_drop,show oTy h k+6 * j+5+1=oTy h k+6 * (j+1) by omega]
  rw [if_pos (room8 _ (by rw [lenA]; simp; omega)),e1]
  have hd2:decide (numB ((b.drop (oTy h k+6 * j+4)).take 1)≤1)=decide (((tysD h b k)[j]).2.1 < 2):=by
   rw [hgj]
   simp only [Nat.add_assoc]
   rw [Bool.eq_iff_iff,decide_eq_true_eq,decide_eq_true_eq]; omega
  have hall:((tysD h b k).take (j+1)).all (fun x=>decide (x.2.1 < 2))=(((tysD h b k).take j).all (fun x=>decide (x.2.1 < 2)) && decide (((tysD h b k)[j]).2.1 < 2)):=by
   rw [ht,List.all_append]; simp
  rw [hd2]
  refine iteAnd (P:=fun c=>k' (((k:Int),(),(),false,(),(),(),c,((j+1:Nat):Int),()),tupHd h,zcA,zcV h.v,((),false,()),(B8 (b.drop (oTy h k+6 * (j+1))),false,true),NI (((tysD h b k).take j).map (·.2.2))++[V.c (Value.int IntKind.i64 (numB ((b.drop (oTy h k+6 * j+5)).take 1)))],RV tr,TV (((tysD h b k).take j).map fun x=>(x.1,x.2.1 == 1,[]))++[V.agg [V.c (Value.int IntKind.i64 (numB ((b.drop (oTy h k+6 * j)).take 4))),V.c (Value.bool (numB ((b.drop (oTy h k+6 * j+4)).take 1) == 1)),V.c (Value.string (ByteArray.mk #[]))]],())) ?_
  rw [← hall]
  refine hk' _ ⟨j+1,false,true,e,?_⟩ (by show h.ty.toNat - ((j+1:Nat):Int).toNat < h.ty.toNat - ((j:Nat):Int).toNat; omega)
  rw [ht,List.map_append,List.map_append,hgj]
  simp only [TV,NI,List.map_append,List.map_cons,List.map_nil,Nat.add_assoc]
  rfl
 ·have:j=h.ty.toNat:=by omega
  subst this
  rw [if_neg (show ¬ decide (((h.ty.toNat:Nat):Int) < (tupHd h).2.2.2.2.2.1)=true from dneg (by rw [hte]; omega)),← q2]
  rw [List.take_of_length_le (by omega)]
  show Xq0e h.ch false (B8 (b.drop (oCh h k))) o f _
  rw [eC]
  refine nTakeS _ _ (by rw [List.length_drop]; omega) (by rw [List.length_drop]; omega) o f ?_
  rw [if_pos (B8_all _),B8_pack,List.drop_drop,← q3]
  exact nL9 B tr false true k1 k2 k' h1 h2
theorem nL7 {h:Hd} {b:List UInt8} {k:Nat} (B:BI h b k) (l0:List Rec) (hl0:l0.length=h.tr.toNat) (hg0:∀ i,i < h.tr.toNat→l0[i]? = some (trA b k i,0)) (o f:Bool) {K:DK} (k1:_→Prop)
  (h1:blockK h b k=true→K (zcV h.v) true (TV (blockZ h b k).ty) true false (RV (blockZ h b k).tr) true false (RV (blockZ h b k).lp) true false)
  (h2:blockK h b k=false→K zcA false [] true true [] true true [] true true) :
  lp (Lq0w_7 Xq0f Xq0e Xq2h Xq1e K k1) (((k:Int),(),(),false,(),(),(0:Int),()),tupHd h,zcA,zcV h.v,((),false,()),(B8 (b.drop (k * h.tr.toNat)),o,f),RV l0,()):=by
 have o9:=head_ok B.ok
 have htr:=o9.tr
 have hb:=B.len
 have hbd:=B.bd
 have q1:oTy h k=k * h.tr.toNat+h.tr.toNat:=by unfold oTy; rw [Nat.add_mul]; omega
 have q2:oCh h k=oTy h k+6 * h.ty.toNat:=rfl
 have q3:oLp h k=oCh h k+h.ch.toNat:=rfl
 have q4:oSd h k=oLp h k+(k+4) * h.lp.toNat:=rfl
 have q5:oUt h k=oSd h k+h.sd.toNat:=rfl
 refine lp_ind (fun x=>h.tr.toNat - x.1.2.2.2.2.2.2.1.toNat) (fun x=>∃ (j:Nat) (o f:Bool) (l:List Rec),j≤h.tr.toNat∧l.length=h.tr.toNat∧(∀ i,i < h.tr.toNat→l[i]? = some (trA b k i,if i < j then trB b k h.tr.toNat i else 0)) ∧
  x=(((k:Int),(),(),false,(),(),(j:Int),()),tupHd h,zcA,zcV h.v,((),false,()),(B8 (b.drop (k * h.tr.toNat+j)),o,f),RV l,())) ?_ ⟨0,o,f,l0,by omega,hl0,fun i hi=>by rw [hg0 i hi,if_neg (by omega)],rfl⟩
 rintro x ⟨j,o,f,l,hj,hl,hg,rfl⟩ k' hk'
 unfold Lq0w_7
 dsimp only
 have hte:(tupHd h).2.2.2.2.1=h.tr:=rfl
 by_cases e:j < h.tr.toNat
 ·have e1:w64 ((j:Int)+1)=((j+1:Nat):Int):=by rw [w64_in (by omega) (by omega)]; omega
  rw [if_pos (show decide ((j:Int) < (tupHd h).2.2.2.2.1)=true from decide_eq_true (by rw [hte]; omega))]
  show Xq0f ((1:Nat):Int) _ _ _ _ _
  refine nNumS 1 (.inl rfl) _ (by rw [List.length_drop]; omega) (by rw [List.length_drop]; omega) o f ?_
  rw [List.drop_drop,Nat.add_assoc,RV_len,Int.toNat_natCast,if_pos (by omega),if_pos (by omega),RV_set1 l j (by omega),e1]
  refine hk' _ ⟨j+1,false,true,_,e,by rw [List.length_set]; exact hl,fun i hi=>?_,rfl⟩ (by show h.tr.toNat - ((j+1:Nat):Int).toNat < h.tr.toNat - ((j:Nat):Int).toNat; omega)
  rw [List.getElem?_set]
  by_cases hij:j=i
  ·subst hij
   have:=hg j hi
   rw [List.getElem?_eq_getElem (by omega),if_neg (Nat.lt_irrefl j)] at this
   have hlj:=Option.some.inj this
   rw [if_pos rfl,if_pos (by omega),hlj,if_pos (Nat.lt_succ_self j)]
  ·rw [if_neg hij,hg i hi]
   by_cases hlt:i < j
   ·rw [if_pos hlt,if_pos (by omega)]
   ·rw [if_neg hlt,if_neg (by omega)]
 ·have:j=h.tr.toNat:=by omega
  subst this
  rw [if_neg (show ¬ decide (((h.tr.toNat:Nat):Int) < (tupHd h).2.2.2.2.1)=true from dneg (by rw [hte]; omega)),← q1]
  have el:=tr_zip b k h.tr.toNat l hl (fun i hi=>by rw [hg i hi,if_pos hi])
  rw [el]
  exact nL8 B _ o f k1 k' h1 h2
theorem nL6 {h:Hd} {b:List UInt8} {k:Nat} (B:BI h b k) {K:DK}
  (h1:blockK h b k=true→K (zcV h.v) true (TV (blockZ h b k).ty) true false (RV (blockZ h b k).tr) true false (RV (blockZ h b k).lp) true false)
  (h2:blockK h b k=false→K zcA false [] true true [] true true [] true true) (o f:Bool) :
  lp (Lq0w_6 Xq0f Xq0e Xq2h Xq1e K) (((k:Int),(),(),false,(),(),(0:Int),()),tupHd h,zcA,zcV h.v,((),false,()),(B8 b,o,f),[],()):=by
 have hk3:k=1∨k=4∨k=8:=.inr B.kk
 have o9:=head_ok B.ok
 have htr:=o9.tr
 have hb:=B.len
 have hbd:=B.bd
 have q1:oTy h k=k * h.tr.toNat+h.tr.toNat:=by unfold oTy; rw [Nat.add_mul]; omega
 have q2:oCh h k=oTy h k+6 * h.ty.toNat:=rfl
 have q3:oLp h k=oCh h k+h.ch.toNat:=rfl
 have q4:oSd h k=oLp h k+(k+4) * h.lp.toNat:=rfl
 have q5:oUt h k=oSd h k+h.sd.toNat:=rfl
 refine lp_ind (fun x=>h.tr.toNat - x.1.2.2.2.2.2.2.1.toNat) (fun x=>∃ (j:Nat) (o f:Bool) (l:List Rec),j≤h.tr.toNat∧l.length=j∧(∀ i,i < j→l[i]? = some (trA b k i,0)) ∧
  x=(((k:Int),(),(),false,(),(),(j:Int),()),tupHd h,zcA,zcV h.v,((),false,()),(B8 (b.drop (k * j)),o,f),RV l,())) ?_ ⟨0,o,f,[],by omega,rfl,fun i hi=>absurd hi (Nat.not_lt_zero i),rfl⟩
 rintro x ⟨j,o,f,l,hj,hl,hg,rfl⟩ k' hk'
 unfold Lq0w_6
 dsimp only
 have hte:(tupHd h).2.2.2.2.1=h.tr:=rfl
 by_cases e:j < h.tr.toNat
 ·have e1:w64 ((j:Int)+1)=((j+1:Nat):Int):=by rw [w64_in (by omega) (by omega)]; omega
  have m1:k * (j+1)=k * j+k:=Nat.mul_succ _ _
  have m2:k * (j+1)≤k * h.tr.toNat:=Nat.mul_le_mul_left _ e
  rw [if_pos (show decide ((j:Int) < (tupHd h).2.2.2.2.1)=true from decide_eq_true (by rw [hte]; omega))]
  refine nNumS k hk3 _ (by rw [List.length_drop]; omega) (by rw [List.length_drop]; omega) o f ?_
  rw [List.drop_drop,← m1,if_pos (room16 _ (by rw [RV_len]; simp; omega)),RV_snoc,e1]
  refine hk' _ ⟨j+1,false,true,_,e,by simp [hl],fun i hi=>?_,rfl⟩ (by show h.tr.toNat - ((j+1:Nat):Int).toNat < h.tr.toNat - ((j:Nat):Int).toNat; omega)
  by_cases hij:i < j
  ·rw [List.getElem?_append_left (by omega),hg i hij]
  ·have:i=j:=by omega
   subst this
   rw [List.getElem?_append_right (by omega),hl,Nat.sub_self]; rfl
 ·have:j=h.tr.toNat:=by omega
  subst this
  rw [if_neg (show ¬ decide (((h.tr.toNat:Nat):Int) < (tupHd h).2.2.2.2.1)=true from dneg (by rw [hte]; omega))]
  exact nL7 B l hl hg o f k' h1 h2
theorem nBlockDecode (h:Hd) (b:List UInt8) (hb:b.length≤1000000) (k:Nat) (hk:k=4∨k=8) {K:DK}
  (h1:(blockD h b k).2=true→K (zcV (blockD h b k).1.v) true (TV (blockD h b k).1.ty) true false (RV (blockD h b k).1.tr) true false (RV (blockD h b k).1.lp) true false)
  (h2:(blockD h b k).2=false→K zcA false [] true true [] true true [] true true):Xq0w (tupHd h) (B8 b) (k:Int) K:=by
 unfold Xq0w Yq0w
 have main:headOk h=true→Xq23 (tupHd h) (k:Int) (fun r4=>if (((B8 b).length:Int) != r4)=true then K zcA false [] true true [] true true [] true true else Xq1u (B8 b) (fun r5 r6 r7 r8=>lp (Lq0w_6 Xq0f Xq0e Xq2h Xq1e K) (((k:Int),(),(),false,(),(),(0:Int),()),tupHd h,zcA,zcV (tupHd h).1,((),r5,()),(r6,r7,r8),[],()))):=fun hk0=>by
  refine nSize h k hk ?_
  unfold blockD at h1 h2
  rw [B8_len]
  by_cases s1:(b.length:Int)=sizeR h k
  ·rw [if_neg (by simp [s1])]
   have s0:sizeR h k≠0:=by
    have o9:=head_ok hk0
    have t1:=o9.tr; have t2:=o9.ty; have t3:=o9.ch; have t4:=o9.lp; have t5:=o9.ut; have t6:=o9.sd
    unfold sizeR
    rw [if_pos ⟨hk0,hk⟩]
    have p1:0≤h.tr * ((k:Int)+1):=Int.mul_nonneg t1.1 (by omega)
    have p2:0≤h.lp * ((k:Int)+4):=Int.mul_nonneg t4.1 (by omega)
    omega
   obtain ⟨g1,g2,g3⟩:=size_sum s0
   have B:BI h b k:=⟨hk,g1,by omega,hb⟩
   refine nOpen b (by omega) ?_
   cases hK:blockK h b k
   ·rw [if_neg (by rw [hK]; simp)] at h2
    exact nL6 B (fun q=>by rw [hK] at q; cases q) (fun _=>h2 rfl) true false
   ·rw [if_pos ⟨s0,s1,hK⟩] at h1
    exact nL6 B (fun _=>h1 rfl) (fun q=>by rw [hK] at q; cases q) true false
  ·rw [if_pos (by simpa using s1)]
   rw [if_neg (fun q=>s1 q.2.1)] at h2
   exact h2 rfl
 refine nHead h ?_
 cases q:headOk h
 ·rw [if_pos (by rfl)]
  refine h2 ?_
  unfold blockD
  rw [if_neg]
  rintro ⟨s0,_⟩
  rw [(size_sum s0).1] at q; cases q
 ·rw [if_neg (by simp)]
  by_cases k4:k=4
  ·rw [if_neg (by simp [k4])]
   exact main q
  ·have k8:k=8:=by omega
   rw [if_pos (by simp [k8]),if_neg (by simp [k8])]
   exact main q
end Go.Proofs.YtbnpclndiichcaaGreatDoor
end
section
set_option linter.unusedVariables false
set_option linter.unusedSimpArgs false
namespace Go.Proofs.YtbnpclndiichcaaGreatDoor
open Go Go.Proofs.YtbnpclndiichcaaGreatDoor.Eng Go.Proofs.YtbnpclndiichcaaGreatDoor.Pl
set_option maxRecDepth 100000
set_option maxHeartbeats 4000000
theorem nCountZ (z:Zn) (hz:ZI z) {K:Int×Int×Int×Int×Int×Int×Int×Unit→Bool→Prop} (h1:countOk z=true→K (tupHd (hdZ z)) true) (h2:countOk z=false→K (tupHd hd0) false):Xq1t (tupZ z) K:=by
 show Xq1t (TV z.ty,RV z.tr,RV z.lp,S z.ft,z.v,()) K
 unfold Xq1t Yq1t
 rw [count_head] at h1 h2
 refine qNames z (by have:=hz.ty; omega) ?_
 refine nPool (namesZ z) (by have:=hz.ty; simp [namesZ]; omega) (fun s hs=>?_) (fun ha=>?_) (fun ha p at' o y=>?_)
 ·obtain ⟨t,ht,rfl⟩:=List.mem_map.1 hs
  have:=hz.nm t ht; omega
 ·rw [if_neg (by simp)]
  dsimp only
  rw [RV_len,RV_len,TV_len,S_size]
  refine nHead (hdZ z) ?_
  have ha':((z.ty.map (·.2.2)).all abbrL && decide (poolN [] (z.ty.map (·.2.2))≤256))=true:=ha
  rw [ha',Bool.true_and] at h1 h2
  cases hb:headOk (hdZ z)
  ·rw [if_pos (show (!false)=true from rfl)]; exact h2 hb
  ·rw [if_neg (by simp)]; exact h1 hb
 ·rw [if_pos (show (!false)=true from rfl)]
  refine h2 ?_
  have ha':((z.ty.map (·.2.2)).all abbrL && decide (poolN [] (z.ty.map (·.2.2))≤256))=false:=ha
  rw [ha',Bool.false_and]
theorem nFootR (b:List UInt8) (hb:b.length≤1000000) {K:ByteArray→Bool→Prop} (h1:footOk b=true→K (S b.tail.dropLast) true) (h2:footOk b=false→∀ s,K s false):Xq1w (B8 b) K:=by
 unfold Xq1w Yq1w
 unfold footOk at h1 h2
 rw [B8_len]
 by_cases l2:b.length < 2
 ·rw [if_pos (decide_eq_true (by omega))]
  exact h2 (by rw [decide_eq_false (by omega)]; rfl) _
 rw [if_neg (dneg (by omega)),if_pos (by omega)]
 rw [decide_eq_true (show 2≤b.length by omega),Bool.true_and] at h1 h2
 refine asB8 (by omega) ?_
 have hh:b.head? = some (b[0]'(by omega)):=by rw [List.head?_eq_getElem?,List.getElem?_eq_getElem (by omega)]
 have hla:b.getLast? = some (b[b.length - 1]'(by omega)):=by rw [List.getLast?_eq_getElem?,List.getElem?_eq_getElem (by omega)]
 rw [hh,hla] at h1 h2
 have ten:∀ c:UInt8,(c.toNat:Int)=10↔c=10:=fun c=>⟨fun q=>UInt8.toNat_inj.1 (show c.toNat=10 by omega),fun q=>by rw [q]; rfl⟩
 by_cases c0:(b[0]'(by omega))=10
 rotate_left
 ·rw [if_pos (by rw [bne_iff_ne]; exact fun q=>c0 ((ten _).1 q))]
  exact h2 (by rw [show (some (b[0]'(by omega)) == some (10:UInt8))=false by simpa using c0]; rfl) _
 rw [if_neg (by simp [c0])]
 have e1:w64 ((b.length:Int) - 1)=((b.length - 1:Nat):Int):=by rw [w64_in (by omega) (by omega)]; omega
 rw [e1,if_pos (by omega),Int.toNat_natCast]
 refine asB8 (by omega) ?_
 by_cases c1:(b[b.length - 1]'(by omega))=10
 rotate_left
 ·rw [if_pos (by rw [bne_iff_ne]; exact fun q=>c1 ((ten _).1 q))]
  exact h2 (by rw [show (some (b[b.length - 1]'(by omega)) == some (10:UInt8))=false by simpa using c1]; simp) _
 rw [if_neg (by simp [c1])]
 rw [show (some (b[0]'(by omega)) == some (10:UInt8))=true by simpa using c0,show (some (b[b.length - 1]'(by omega)) == some (10:UInt8))=true by simpa using c1,Bool.true_and,Bool.true_and] at h1 h2
 have mid:b.tail.dropLast=(b.drop 1).take (b.length - 2):=by
  rw [List.dropLast_eq_take,List.length_tail,← List.drop_one]; congr 1
 rw [mid] at h1 h2
 refine lp_ind (fun x=>b.length - x.1.2.2.2.1.toNat) (fun x=>∃ j:Nat,1≤j∧j≤b.length - 1∧((b.drop 1).take (j - 1)).any (· == 10)=false∧x=((B8 b,ByteArray.mk #[],false,(j:Int),()),())) ?_ ⟨1,by omega,by omega,by simp,rfl⟩
 rintro x ⟨j,j1,hj,hany,rfl⟩ k hk
 unfold Lq1w_0
 dsimp only
 rw [B8_len,e1,Int.toNat_natCast]
 by_cases e:j < b.length - 1
 ·have e2:w64 ((j:Int)+1)=((j+1:Nat):Int):=by rw [w64_in (by omega) (by omega)]; omega
  rw [if_pos (decide_eq_true (by omega)),if_pos (by omega),e2]
  refine asB8 (by omega) ?_
  have hdj:(b.drop 1)[j - 1]'(by rw [List.length_drop]; omega)=b[j]'(by omega):=by rw [List.getElem_drop]; congr 1; omega
  by_cases c:(b[j]'(by omega))=10
  ·rw [if_pos (by simp [c])]
   refine h2 ?_ _
   have:((b.drop 1).take (b.length - 2)).any (· == 10)=true:=by
    refine List.any_eq_true.2 ⟨b[j]'(by omega),?_,by simpa using c⟩
    rw [← hdj]
    exact List.mem_take_iff_getElem.2 ⟨j - 1,by rw [List.length_drop]; omega,rfl⟩
   rw [this]; rfl
  ·rw [if_neg (by rw [beq_iff_eq]; exact fun q=>c ((ten _).1 q))]
   refine hk _ ⟨j+1,by omega,by omega,?_,rfl⟩ (by show b.length - ((j+1:Nat):Int).toNat < b.length - ((j:Nat):Int).toNat; omega)
   rw [show j+1 - 1=(j - 1)+1 by omega,List.take_succ_eq_append_getElem (by rw [List.length_drop]; omega),hdj,List.any_append,hany]
   simpa using c
 ·have:j=b.length - 1:=by omega
  subst this
  rw [if_neg (dneg (by omega)),if_pos (by omega),if_pos (by omega),Int.toNat_natCast,B8_cut,if_pos (B8_all _),B8_pack]
  simp only [lt]
  rw [show b.length - 1 - 1=b.length - 2 by omega] at hany ⊢
  exact h1 (by rw [hany]; rfl)
theorem nTzEncode (z:Zn) (hz:ZI z) {K:Bool→List V→Bool→Bool→Prop} (h1:(encR z).2=true→K true (B8 (encR z).1) true false) (h2:(encR z).2=false→K false [] true true):Xq18 (tupZ z) K:=by
 unfold Xq18 Yq18
 have ev:(tupZ z).2.2.2.2.1=z.v:=rfl
 have ef:(tupZ z).2.2.2.1=S z.ft:=rfl
 rw [ev,ef]
 unfold encR at h1 h2
 refine qRightZ z hz ?_
 cases hr:zoneRight z
 ·rw [if_pos (by rfl)]
  rw [if_neg (by rw [hr]; simp)] at h2
  exact h2 rfl
 rw [if_neg (by simp)]
 have hc:=right_count hr
 refine nCountZ z hz (fun _=>?_) (fun q=>by rw [hc] at q; cases q)
 have hh:headOk (hdZ z)=true:=by
  have:=hc
  rw [count_head,Bool.and_eq_true] at this
  exact this.2
 refine nHeadEncode (hdZ z) (fun _=>?_) (fun q=>by rw [hh] at q; cases q)
 have hft:=hz.ft
 by_cases v1:z.v=1
 ·have es:szZ z=4:=by unfold szZ; rw [if_pos v1]
  rw [es,if_pos v1] at h1
  rw [es] at h2
  rw [if_pos (by simp [v1])]
  show Xq0y (tupZ z) ((4:Nat):Int) _
  refine nEncode z hz 4 (.inl rfl) (fun hb=>?_) (fun hb=>?_)
  ·have hbl:=blockB_le z hz 4 (.inl rfl)
   rw [if_neg (by simp),if_pos rfl,B8_len,B8_len,headE_len,if_pos (room1 _ (by omega)),B8_app]
   rw [if_pos ⟨hb,hr⟩] at h1
   exact h1 rfl
  ·rw [if_pos (by rfl)]
   rw [if_neg (by rw [hb]; simp)] at h2
   exact h2 rfl
 ·have es:szZ z=8:=by unfold szZ; rw [if_neg v1]
  rw [es,if_neg v1] at h1
  rw [es] at h2
  rw [if_neg (by simpa using v1)]
  show Xq0y (tupZ z) ((8:Nat):Int) _
  refine nEncode z hz 8 (.inr rfl) (fun hb=>?_) (fun hb=>?_)
  ·have hbl:=blockB_le z hz 8 (.inr rfl)
   have hv:=(count_ok hc).v
   rw [if_pos ⟨hb,hr⟩] at h1
   rw [if_neg (by simp)]
   refine nHeadEncode ⟨z.v,0,0,0,0,1,1⟩ (fun _=>?_) (fun q=>by rw [hd1_ok hv] at q; cases q)
   have er:List.replicate 7 (Eng.ofVal (Value.int IntKind.u8 (0:Int)))=B8 (List.replicate 7 0):=rfl
   have e10:ByteArray.mk #[(10:UInt8)]=S [10]:=rfl
   rw [er,e10]
   simp only [B8_app,B8_len,headE_len,List.length_append,List.length_replicate]
   simp only [if_true]
   rw [if_pos (room1 _ (by omega)),if_pos (room1 _ (by omega)),if_pos (room1 _ (by omega))]
   rw [S_size,S_append,S_size,if_neg (by omega),if_neg (by simp; omega)]
   simp only [lt]
   rw [S_append,bytesV_S]
   try simp only [if_true]
   simp only [B8_app,B8_len,headE_len,List.length_append,List.length_replicate,List.length_singleton]
   rw [if_pos (room1 _ (by omega))]
   have e:headE ⟨z.v,0,0,0,0,1,1⟩++List.replicate 7 0++headE (hdZ z)++blockB z 8++([10]++z.ft++[10])=headE ⟨z.v,0,0,0,0,1,1⟩++(List.replicate 7 0++(partR z 8++(10 :: (z.ft++[10])))):=by
    unfold partR; simp
   rw [e]
   exact h1 rfl
  ·rw [if_pos (by rfl)]
   rw [if_neg (by rw [hb]; simp)] at h2
   exact h2 rfl
theorem cutA_all {b:List UInt8} {k:Nat} (h:(headD b).2=true):cutOk b k=decide (sizeR (headD b).1 (hSz (headD b).1 k)≤(b.length:Int) - 44):=by
 unfold cutOk; rw [h,Bool.true_and]
theorem nhead_len {b:List UInt8} (h:(headD b).2=true):44≤b.length∧headOk (headD b).1=true:=by
 unfold headD at h ⊢
 split at h
 ·rename_i w; rw [if_pos w]; exact ⟨w.1,w.2.2.2⟩
 ·cases h
theorem size_pos {h:Hd} (q:headOk h=true) {k:Nat} (hk:k=4∨k=8):0 < sizeR h k:=by
 have o9:=head_ok q
 have t1:=o9.tr; have t2:=o9.ty; have t3:=o9.ch; have t4:=o9.lp; have t5:=o9.ut; have t6:=o9.sd
 unfold sizeR
 rw [if_pos ⟨q,hk⟩]
 have p1:0≤h.tr * ((k:Int)+1):=Int.mul_nonneg t1.1 (by omega)
 have p2:0≤h.lp * ((k:Int)+4):=Int.mul_nonneg t4.1 (by omega)
 omega
abbrev zcS (z:Zn):Unit×Unit×Unit×ByteArray×Int×Unit:=((),(),(),S z.ft,z.v,())
theorem nRead (b:List UInt8) (hb:b.length≤1000000) {K:DK}
  (h1:(readD b).2=true→K (zcS (readD b).1) true (TV (readD b).1.ty) true false (RV (readD b).1.tr) true false (RV (readD b).1.lp) true false)
  (h2:(readD b).2=false→∀ z x1 x2 x3 x4 x5 x6 x7 x8 x9,K z false x1 x2 x3 x4 x5 x6 x7 x8 x9):Xq25 (B8 b) K:=by
 unfold Xq25 Yq25
 refine nHeadDecode b hb ?_
 have noH:(headD b).2=false→(readD b).2=false:=fun q=>by
  have:cutOk b 4=false:=by unfold cutOk; rw [q]; rfl
  rw [readD_cut this]
 cases hd:(headD b).2
 ·rw [if_pos (by rfl)]
  exact h2 (noH hd) _ _ _ _ _ _ _ _ _ _
 rw [if_neg (by simp)]
 obtain ⟨l44,hok⟩:=nhead_len hd
 rw [B8_len,if_pos (by omega),if_pos (by omega),Int.toNat_natCast,B8_cut]
 have e44:(b.drop 44).take (b.length - 44)=b.drop 44:=List.take_of_length_le (by rw [List.length_drop]; exact Nat.le_refl _)
 rw [e44]
 have hco:=cutA_all (k:=4) hd
 by_cases v1:(headD b).1.v=1
 ·rw [if_pos (show ((tupHd (headD b).1).1 == (1:Int))=true by unfold tupHd; simp [v1])]
  have hsz:hSz (headD b).1 4=4:=by unfold hSz; rw [if_pos v1]
  rw [hsz] at hco
  have sp:=size_pos hok (k:=4) (.inl rfl)
  show Xq0w _ _ ((4:Nat):Int) _
  have key:readD b=if (blockD (headD b).1 (b.drop 44) 4).2=true then ((blockD (headD b).1 (b.drop 44) 4).1,true) else (zn0,false):=by
   unfold readD
   by_cases c:cutOk b 4=true
   ·rw [if_pos c,if_pos v1]
    rw [hco,decide_eq_true_eq] at c
    have hcb:cutB b 4=[]↔((b.drop 44).length:Int)=sizeR (headD b).1 4:=by
     unfold cutB
     rw [hsz,List.drop_eq_nil_iff,List.length_drop]
     omega
    have hca:((b.drop 44).length:Int)=sizeR (headD b).1 4→cutA b 4=b.drop 44:=fun q=>by
     unfold cutA
     rw [hsz,List.take_of_length_le (by omega)]
    by_cases q:((b.drop 44).length:Int)=sizeR (headD b).1 4
    ·rw [hca q]
     by_cases w:(blockD (headD b).1 (b.drop 44) 4).2=true
     ·rw [if_pos ⟨w,hcb.2 q⟩,if_pos w]
     ·rw [if_neg (fun x=>w x.1),if_neg w]
    ·rw [if_neg (fun x=>q (hcb.1 x.2)),if_neg]
     intro w
     unfold blockD at w
     split at w
     ·rename_i y; exact q y.2.1
     ·cases w
   ·rw [if_neg c,if_neg]
    intro w
    rw [hco,decide_eq_true_eq] at c
    unfold blockD at w
    split at w
    ·rename_i y
     have:=y.2.1
     rw [List.length_drop] at this; omega
    ·cases w
  refine nBlockDecode _ _ (by rw [List.length_drop]; omega) 4 (.inl rfl) (fun q=>?_) (fun q=>?_)
  ·rw [key,if_pos q] at h1
   have ft0:(blockD (headD b).1 (b.drop 44) 4).1.ft=[]:=by
    unfold blockD at q ⊢
    split at q
    ·rename_i w; rw [if_pos w]; rfl
    ·cases q
   have h1:=h1 rfl
   unfold zcS at h1
   rw [ft0] at h1
   exact h1
  ·rw [key,if_neg (by rw [q]; simp)] at h2
   exact h2 rfl _ _ _ _ _ _ _ _ _ _
 ·rw [if_neg (show ¬ ((tupHd (headD b).1).1 == (1:Int))=true by unfold tupHd; simpa using v1)]
  have hsz:hSz (headD b).1 4=4:=by unfold hSz; rw [if_neg v1]
  rw [hsz] at hco
  have sp:=size_pos hok (k:=4) (.inl rfl)
  refine nSize _ 4 (.inl rfl) ?_
  rw [B8_len]
  by_cases c:sizeR (headD b).1 4≤(b.length:Int) - 44
  rotate_left
  ·rw [if_pos (decide_eq_true (by rw [List.length_drop]; omega))]
   refine h2 ?_ _ _ _ _ _ _ _ _ _ _
   rw [readD_cut (by rw [hco,decide_eq_false_iff_not]; exact c)]
  have cok:cutOk b 4=true:=by rw [hco,decide_eq_true_eq]; exact c
  rw [if_neg (dneg (by rw [List.length_drop]; omega)),if_pos (by omega),if_pos (by rw [List.length_drop]; omega),Int.toNat_natCast,B8_cut]
  have eB:((b.drop 44).drop (sizeR (headD b).1 4).toNat).take ((b.drop 44).length - (sizeR (headD b).1 4).toNat)=cutB b 4:=by
   unfold cutB
   rw [hsz,List.take_of_length_le (by rw [List.length_drop]; exact Nat.le_refl _)]
  rw [eB]
  simp only [lt]
  have lb:=cutB_len b 4
  unfold readD at h1 h2
  rw [if_pos cok,if_neg v1] at h1 h2
  generalize hB:cutB b 4=B at *
  refine nHeadDecode B (by omega) ?_
  cases hd2:(headD B).2
  ·rw [if_pos (by rfl)]
   have:cutOk B 8=false:=by unfold cutOk; rw [hd2]; rfl
   rw [if_neg (fun w=>by rw [this] at w; cases w.1)] at h2
   exact h2 rfl _ _ _ _ _ _ _ _ _ _
  rw [if_neg (by simp)]
  obtain ⟨l44',hok2⟩:=nhead_len hd2
  by_cases vv:(headD B).1.v=(headD b).1.v
  rotate_left
  ·rw [if_pos (show ((tupHd (headD B).1).1 != (tupHd (headD b).1).1)=true by unfold tupHd; simpa using vv)]
   rw [if_neg (fun w=>vv w.2.1)] at h2
   exact h2 rfl _ _ _ _ _ _ _ _ _ _
  rw [if_neg (show ¬ ((tupHd (headD B).1).1 != (tupHd (headD b).1).1)=true by unfold tupHd; simp [vv])]
  rw [B8_len,if_pos (by omega),if_pos (by omega),Int.toNat_natCast,B8_cut]
  have e44':(B.drop 44).take (B.length - 44)=B.drop 44:=List.take_of_length_le (by rw [List.length_drop]; exact Nat.le_refl _)
  rw [e44',B8_len]
  have hsz2:hSz (headD B).1 8=8:=by unfold hSz; rw [if_neg (by rw [vv]; exact v1)]
  have hco2:=cutA_all (k:=8) hd2
  rw [hsz2] at hco2
  have sp2:=size_pos hok2 (k:=8) (.inr rfl)
  refine nSize _ 8 (.inr rfl) ?_
  by_cases c2:sizeR (headD B).1 8≤(B.length:Int) - 44
  rotate_left
  ·rw [if_pos (decide_eq_true (by rw [List.length_drop]; omega))]
   have:cutOk B 8=false:=by rw [hco2,decide_eq_false_iff_not]; exact c2
   rw [if_neg (fun w=>by rw [this] at w; cases w.1)] at h2
   exact h2 rfl _ _ _ _ _ _ _ _ _ _
  have cok2:cutOk B 8=true:=by rw [hco2,decide_eq_true_eq]; exact c2
  rw [if_neg (dneg (by rw [List.length_drop]; omega)),if_pos (by rw [List.length_drop]; omega),if_pos (by omega)]
  refine dup_of ?_
  rw [B8_cut,List.drop_zero,Nat.sub_zero]
  have eA2:(B.drop 44).take (sizeR (headD B).1 8).toNat=cutA B 8:=by unfold cutA; rw [hsz2]
  have eB2:((B.drop 44).drop (sizeR (headD B).1 8).toNat).take ((B.drop 44).length - (sizeR (headD B).1 8).toNat)=cutB B 8:=by
   unfold cutB
   rw [hsz2,List.take_of_length_le (by rw [List.length_drop]; exact Nat.le_refl _)]
  rw [eA2]
  have la2:=cutA_len B 8
  have lb2:=cutB_len B 8
  have after:∀ (g:Bool) (zc:Unit×Unit×Unit×ByteArray×Int×Unit) (y1 y2 y3:List V) (f1 f2 f3 f4 f5 f6:Bool),
    (g=true→footOk (cutB B 8)=true→K ((),(),(),S (cutB B 8).tail.dropLast,zc.2.2.2.2) true y1 f1 f2 y2 f3 f4 y3 f5 f6)→(¬ (g=true∧footOk (cutB B 8)=true)→K zcA false [] true true [] true true [] true true) →
    (if (0:Int)≤((B.drop 44).length:Int)∧((B.drop 44).length:Int)≤((B.drop 44).length:Int) then (if 0≤sizeR (headD B).1 8∧sizeR (headD B).1 8≤((B.drop 44).length:Int) then
     lt (Eng.cutL (B8 (B.drop 44)) (sizeR (headD B).1 8).toNat (Int.toNat ((B.drop 44).length:Int) - (sizeR (headD B).1 8).toNat)) fun v30=>Xq1w v30 (fun r31 r32=>if (!g)=true then K zcA false [] true true [] true true [] true true else (if (!r32)=true then K zcA false [] true true [] true true [] true true else K ((),(),(),r31,zc.2.2.2.2) true y1 f1 f2 y2 f3 f4 y3 f5 f6)) else False) else False):=fun g zc y1 y2 y3 f1 f2 f3 f4 f5 f6 a1 a2=>by
   rw [if_pos (by omega),if_pos (by rw [List.length_drop]; omega),Int.toNat_natCast,B8_cut,eB2]
   simp only [lt]
   refine nFootR _ (by omega) (fun f=>?_) (fun f s=>?_)
   ·cases g
    ·rw [if_pos (by rfl)]; exact a2 (fun w=>by cases w.1)
    ·rw [if_neg (by simp),if_neg (by simp)]; exact a1 rfl f
   ·cases g
    ·rw [if_pos (by rfl)]; exact a2 (fun w=>by cases w.1)
    ·rw [if_neg (by simp),if_pos (by rfl)]; exact a2 (fun w=>by rw [f] at w; cases w.2)
  show Xq0w _ _ ((8:Nat):Int) _
  refine nBlockDecode _ _ (by omega) 8 (.inr rfl) (fun q=>?_) (fun q=>?_)
  ·refine after true _ _ _ _ _ _ _ _ _ _ (fun _ f=>?_) (fun w=>?_)
   ·rw [if_pos ⟨cok2,vv,q,f⟩] at h1
    exact h1 rfl
   ·rw [if_neg (fun x=>w ⟨rfl,x.2.2.2⟩)] at h2
    exact h2 rfl _ _ _ _ _ _ _ _ _ _
  ·refine after false _ _ _ _ _ _ _ _ _ _ (fun w=>by cases w) (fun w=>?_)
   rw [if_neg (fun x=>by rw [q] at x; cases x.2.2.1)] at h2
   exact h2 rfl _ _ _ _ _ _ _ _ _ _
end Go.Proofs.YtbnpclndiichcaaGreatDoor
end
section
set_option linter.unusedVariables false
set_option linter.unusedSimpArgs false
namespace Go.Proofs.YtbnpclndiichcaaGreatDoor
open Go Go.Proofs.YtbnpclndiichcaaGreatDoor.Eng Go.Proofs.YtbnpclndiichcaaGreatDoor.Pl
set_option maxRecDepth 100000
set_option maxHeartbeats 4000000
theorem nDecode (b:List UInt8) (hb:b.length≤1000000) (hz:(readD b).2=true→ZI (readD b).1) {K:Unit×Unit×Unit×ByteArray×Int×Unit→Int→List V→Bool→Bool→List V→Bool→Bool→List V→Bool→Bool→Prop}
  (h:∀ o1 f1 o2 f2 o3 f3,K (zcS (decR b).1) (decR b).2 (TV (decR b).1.ty) o1 f1 (RV (decR b).1.tr) o2 f2 (RV (decR b).1.lp) o3 f3):Xq14 (B8 b) K:=by
 unfold Xq14 Yq14
 unfold decR at h
 refine nRead b hb (fun q=>?_) (fun q=>?_)
 ·rw [if_pos q] at h
  rw [if_neg (by simp)]
  show Xq1a (tupZ (readD b).1) _
  refine qRightZ _ (hz q) ?_
  cases hr:zoneRight (readD b).1
  ·rw [if_pos (by rfl)]
   rw [if_neg (by rw [hr]; simp)] at h
   exact h true true true true true true
  ·rw [if_neg (by simp)]
   rw [if_pos hr] at h
   exact h _ _ _ _ _ _
 ·rw [if_neg (by rw [q]; simp)] at h
  intro z x1 x2 x3 x4 x5 x6 x7 x8 x9
  rw [if_pos (by rfl)]
  exact h true true true true true true
theorem nRightB (b:List UInt8) (hb:b.length≤1000000) (hz:(readD b).2=true→ZI (readD b).1) {K:Bool→Prop} (h:K ((decR b).2 == 0)):Xq1c (B8 b) K:=by
 unfold Xq1c Yq1c
 exact nDecode b hb hz fun _ _ _ _ _ _=>h
theorem B8_set77 (l:List UInt8) (i:Nat) (h:i < l.length):List.set (B8 l) i (Eng.setE (List.getD (B8 l) i Eng.V.bad) 0 [.c (.int .u8 77)])=B8 (l.set i 77):=B8_set' l i h 77
theorem lTzifTells (z:Zn) (hg:ZG z) (b:List UInt8) {K:Bool→Prop} (h:K true):Xq0g (tupZ z) (B8 b) K:=by
 unfold Xq0g Yq0g
 refine tsmall20 (sFew z hg.tl (fun hf=>?_) ?_)
 rotate_left
 ·rw [if_pos (show (!false)=true from rfl)]; exact h
 have hz:=hg.zi hf
 have hlen:=enc_len_le z hz
 rw [if_neg (by simp),B8_len]
 by_cases l1:(b.length:Int) > 4000
 ·rw [if_pos (decide_eq_true l1)]; exact h
 rw [if_neg (dneg l1)]
 have zr:(readD b).2=true→ZI (readD b).1:=zi_read (by omega)
 have tail:∀ (g:Bool) (E:List UInt8) (o1 f1 o2 f2:Bool),(if Eng.roomOk (0+b.length) 1=true then Xq33 ([]++B8 b) (fun r12 r13 r14 r15 r16 r17 r18 r19 r20 r21 r22 =>
   if ((!r16 || List.isEmpty r14) && Eng.plainL r14)=true then (if ((!r19 || List.isEmpty r17) && Eng.plainL r17)=true then (if ((!r22 || List.isEmpty r20) && Eng.plainL r20)=true then
    lp (Lq0g_0 Xq14 Xq22 Xq3f Xq1c K) ((B8 b,false,true,(),g,(),g,(),(),r13,0,()),((),(),(),r12.2.2.2),(B8 E,o1,f1),(B8 E,o2,f2),[]++B8 b,(r14,r15,r16),(r17,r18,r19),(r20,r21,r22),()) else False) else False) else False) else False):=fun g E o1 f1 o2 f2=>by
  rw [if_pos (room1 _ (by omega)),List.nil_append]
  refine tDecode b (by omega) zr fun p1 q1 p2 q2 p3 q3 c1 c2 c3=>?_
  rw [if_pos (okr c1),if_pos (okr c2),if_pos (okr c3)]
  refine lp_ind (fun x=>b.length - x.1.2.2.2.2.2.2.2.2.2.2.1.toNat) (fun x=>∃ (j:Nat) (l:List UInt8),j≤b.length∧l.length=b.length∧x=((B8 b,false,true,(),g,(),g,(),(),(decR b).2,(j:Int),()),zcS (decR b).1,(B8 E,o1,f1),(B8 E,o2,f2),B8 l,(TV (decR b).1.ty,p1,q1),(RV (decR b).1.tr,p2,q2),(RV (decR b).1.lp,p3,q3),())) ?_ ⟨0,b,by omega,rfl,rfl⟩
  rintro x ⟨j,l,hj,hl,rfl⟩ k hk
  unfold Lq0g_0
  dsimp only
  rw [B8_len,hl,Int.toNat_natCast]
  by_cases e:j < b.length
  ·have e1:w64 ((j:Int)+1)=((j+1:Nat):Int):=by rw [w64_in (by omega) (by omega)]; omega
   rw [if_pos (decide_eq_true (by omega)),if_pos (by omega),if_pos e,B8_set77 l j (by omega),e1]
   exact hk _ ⟨j+1,l.set j 77,e,by rw [List.length_set]; exact hl,rfl⟩ (by show b.length - ((j+1:Nat):Int).toNat < b.length - ((j:Nat):Int).toNat; omega)
  ·rw [if_neg (dneg (by omega))]
   refine nDecode b (by omega) zr fun s1 t1 s2 t2 s3 t3=>?_
   rw [if_pos rfl,if_pos (B8_all _),if_pos (B8_all _),if_pos (by simp),if_pos (by simp)]
   have zd:(decR b).1.ty.length≤100000∧(decR b).1.tr.length≤100000∧(decR b).1.lp.length≤100000:=by
    unfold decR
    split
    ·rename_i q
     split
     ·have:=zr q; exact ⟨Nat.le_trans this.ty (by decide),Nat.le_trans this.tr (by decide),Nat.le_trans this.lp (by decide)⟩
     ·exact ⟨by decide,by decide,by decide⟩
    ·exact ⟨by decide,by decide,by decide⟩
   show Xq22 (tupZ (decR b).1) (tupZ (decR b).1) _
   refine qSame16 (decR b).1 (decR b).1 (by omega) (by omega) (by omega) ?_
   rw [sameZ_me,if_pos rfl,if_pos (by simp)]
   refine tRight b (by omega) zr (nRightB b (by omega) zr ?_)
   rw [beq_self_eq_true]; exact h
 refine tTzEncode z hz (fun e=>?_) (fun e=>?_)
 ·refine nTzEncode z hz (fun _=>?_) (fun q=>by rw [e] at q; cases q)
  exact tail true (encR z).1 true false true false
 ·refine nTzEncode z hz (fun q=>by rw [e] at q; cases q) (fun _=>?_)
  exact tail false [] true true true true
end Go.Proofs.YtbnpclndiichcaaGreatDoor
end
section
set_option linter.unusedVariables false
set_option linter.unusedSimpArgs false
namespace Go.Proofs.YtbnpclndiichcaaGreatDoor
open Go Go.Proofs.YtbnpclndiichcaaGreatDoor.Eng Go.Proofs.YtbnpclndiichcaaGreatDoor.Pl
theorem wfI {n:Int} (h:(Lit.int .i64 n).wf=true):i64r n:=by
 simp [Lit.wf,IntKind.min,IntKind.max,IntKind.bits,IntKind.signed] at h
 unfold i64r; omega
theorem zone_of (tys:List (Int×Bool×ByteArray×Unit)) (trs lps:List (Int×Int×Unit)) (ft:ByteArray) (v:Int) (h1:tys.length≤9223372036854775807)
  (h2:∀ c∈trs,(Lit.int .i64 c.1).wf=true∧(Lit.int .i64 c.2.1).wf=true∧True) (h3:∀ c∈lps,(Lit.int .i64 c.1).wf=true∧(Lit.int .i64 c.2.1).wf=true∧True) (h4:(Lit.int .i64 v).wf=true) :
  ∃ z,ZG z∧((tys.map fun x=>V.agg [.c (.int .i64 x.1),.c (.bool x.2.1),.c (.string x.2.2.1)],trs.map fun x=>V.agg [.c (.int .i64 x.1),.c (.int .i64 x.2.1)],lps.map fun x=>V.agg [.c (.int .i64 x.1),.c (.int .i64 x.2.1)],ft,v,()):List V×List V×List V×ByteArray×Int×Unit)=tupZ z:=by
 have rcI:∀ l:List (Int×Int×Unit),(∀ c∈l,(Lit.int .i64 c.1).wf=true∧(Lit.int .i64 c.2.1).wf=true∧True)→recI (l.map fun c=>(c.1,c.2.1)):=fun l hl c hc=>by
  obtain ⟨d,hd,rfl⟩:=List.mem_map.1 hc
  exact ⟨wfI (hl d hd).1,wfI (hl d hd).2.1⟩
 refine ⟨⟨tys.map fun t=>(t.1,t.2.1,t.2.2.1.data.toList),trs.map fun c=>(c.1,c.2.1),lps.map fun c=>(c.1,c.2.1),ft.data.toList,v⟩,⟨rcI lps h3,rcI trs h2,wfI h4,by simpa using h1⟩,?_⟩
 unfold tupZ
 simp only [List.map_map]
 rfl
abbrev akZ:AK:=(.st (.cons (.sl (.st (.cons (.int .i64) (.cons .bool (.cons .str .nil))))) (.cons (.sl (.st (.cons (.int .i64) (.cons (.int .i64) .nil)))) (.cons (.sl (.st (.cons (.int .i64) (.cons (.int .i64) .nil)))) (.cons .str (.cons (.int .i64) .nil))))))
theorem zone_in (a:akZ.T) (h:akZ.good a):∃ z,ZG z∧(akZ.DV a:List V×List V×List V×ByteArray×Int×Unit)=tupZ z:=by
 obtain ⟨tys,trs,lps,ft,v,u⟩:=a
 obtain ⟨h1,h2,h3,h4,h5,h6⟩:=h
 exact zone_of tys trs lps ft v h1.1 h2.2 h3.2 h5
end Go.Proofs.YtbnpclndiichcaaGreatDoor
end
section
set_option linter.unusedVariables false
set_option linter.unusedSimpArgs false
namespace Go.Proofs.YtbnpclndiichcaaGreatDoor
open Go Go.Proofs.YtbnpclndiichcaaGreatDoor.Eng Go.Proofs.YtbnpclndiichcaaGreatDoor.Pl
theorem tzifTells0 (z:Zn) (hz:ZG z) (a:List Int) (h:∀ x∈a,(Lit.int .u8 x).wf=true):Xq0g (tupZ z) (a.map fun x=>V.c (.int .u8 x)) (fun b=>b=true):=by
 obtain ⟨l,e⟩:=b8_of a h
 rw [e]
 exact lTzifTells z hz l rfl
theorem pureTzifTells:PureTzifTells:=by
 intro a0 h0 a1 h1
 obtain ⟨z,hz,e⟩:=zone_in a0 h0
 rw [show (akTzifTells0.DV a0:List V×List V×List V×ByteArray×Int×Unit)=tupZ z from e]
 exact tzifTells0 z hz a1 h1.2
end Go.Proofs.YtbnpclndiichcaaGreatDoor
end
