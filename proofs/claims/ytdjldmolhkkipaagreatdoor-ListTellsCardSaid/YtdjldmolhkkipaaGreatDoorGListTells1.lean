/- An interpreter of the model's code over values without addresses, and its proof of soundness. -/
import Derived.Test.YtdjldmolhkkipaaGreatDoorGListTells0
import Derived.Lib.AppendStr
import Derived.Great.BuildSlice
import Derived.ChangeKeysEq
import Derived.MapKept
import Derived.Lib.SlBytesConst
section
set_option linter.unusedVariables false
set_option linter.unusedSimpArgs false
namespace Go.Proofs.YtdjldmolhkkipaaGreatDoor.Eng
open Go
section
variable {P:Program} {gives:FuncId→Bool} {C:CL}
variable {B:Base} {n:Nat} {F:Fz} {ρ:Rho} {s:S} {a:Act} {w:World} {o:Oper} {K:S→Prop} {T:Nat→Prop}
theorem cell_new (w:World) (cv:Array Value) (t:TypeId) (p:Nat):clOf (w.alloc (.cells cv t)) w.heap.size p=cv[p]?:=World.cell?_alloc_mark w cv t (0,0) p
theorem zeroCells_size (z:Array Value) (m:Nat):(Builtin.zeroCells z m).size=m * z.size:=by simp [Builtin.zeroCells]
theorem run_grow {c:Call} {t u e:TypeId} {x:Value} {sLen sCap es m g p:Nat} {xs ys:List V} {frz:Bool} {ad:Option Addr} {news:List Value} {z:Value}
  (ho:o.op = .call c) (hc:c.callee = .builtin .append) (hts:c.argTypes = #[t,u]) (hargs:c.args.map a.eval = #[.slice ad sLen sCap,x])
  (ht:P.underlying t=some (.slice e)) (hes:szOf P e=es) (hz:es≠0) (hzv:((P.info? e).bind (·.zero))=some z)
  (hx:Adds P e u x m news w) (hm:m=ys.length) (hn:NewC w F ρ es ys news) (hr:roomOk (sLen+m) (bytesOf P e)=true) (hroom:¬ sLen+m≤sCap) (hb1:0 < bytesOf P e)
  (row:Row w F ρ es xs g p frz) (hlen:sLen=xs.length) (hle:sLen≤sCap) (ha:sCap=0∨ad=some ⟨g,p,none⟩) :
  ∃ (cv:Array Value),NewC w F ρ es (xs++ys) (cv.toList.take ((sLen+m) * es))∧(sLen+m) * es+(grownCap w (sLen+m) sCap e - (sLen+m)) * z.cells.size=cv.size ∧
   (execOp a.eval o).run P w = .ok (.value (.slice (some ⟨w.heap.size,0,none⟩) (sLen+m) (grownCap w (sLen+m) sCap e))) (w.drew.alloc (.cells cv e)):=by
 obtain ⟨olds,h1,h2⟩:=row.cells
 have hlo:olds.length=sLen * es:=by rw [h1.len,hlen]
 have hln:news.length=m * es:=by rw [hn.len,hm]
 unfold roomOk at hr
 rw [decide_eq_true_eq] at hr
 have hby:(sLen+m+1000) * 1≤(sLen+m+1000) * bytesOf P e:=Nat.mul_le_mul_left _ hb1
 refine ⟨(olds++news).toArray++Builtin.zeroCells z.cells (grownCap w (sLen+m) sCap e - (sLen+m)),?_,?_,?_⟩
 ·have:(((olds++news).toArray++Builtin.zeroCells z.cells (grownCap w (sLen+m) sCap e - (sLen+m))).toList.take ((sLen+m) * es))=olds++news:=by
   rw [Array.toList_append]
   simp only [List.take_append_of_le_length (show (sLen+m) * es≤(olds++news).length by rw [List.length_append,hlo,hln,Nat.add_mul]; exact Nat.le_refl _)]
   rw [List.take_of_length_le]
   rw [List.length_append,hlo,hln,Nat.add_mul]; exact Nat.le_refl _
  rw [this]
  exact h1.app hn
 ·simp only [Array.size_append,zeroCells_size,List.size_toArray,List.length_append,hlo,hln,Nat.add_mul]
 ·refine run_append_op (t:=t) (u:=u) (x:=x) (y:=x) ho hc fun ty=>?_
  rw [hts,hargs]
  exact run_append_out (P:=P) (w:=w) ht (by rw [hes]; exact hz) hx hzv hroom hr (by omega) (by rw [hes]; exact run_first hlo hle ha (fun j v hv=>by rw [clOf_drew]; exact h2 j v hv))
theorem take_get {α:Type} {l:List α} {m i:Nat} {x:α} (h:(l.take m)[i]? = some x):l[i]? = some x∧i < m:=by
 rw [List.getElem?_take] at h
 split at h
 ·exact ⟨h,by assumption⟩
 ·cases h
theorem append_out {c:Call} {t u e:TypeId} {x:Value} {k off sLen sCap es ver m:Nat} {xs ys:List V} {own frz:Bool} {ad:Option Addr} {news:List Value} {z:Value}
  (ho:o.op = .call c) (hc:c.callee = .builtin .append) (hts:c.argTypes = #[t,u]) (hargs:c.args.map a.eval = #[.slice ad sLen sCap,x])
  (hR:RelF B n F ρ s a w) (hl:look k s.hp=some (.arr es xs own frz ver)) (ht:P.underlying t=some (.slice e)) (hes:szOf P e=es) (hz:es≠0) (hzv:((P.info? e).bind (·.zero))=some z) (hzs:z.cells.size=es)
  (hx:Adds P e u x m news w) (hm:m=ys.length) (hn:NewC w F ρ es ys news) (hr:roomOk (sLen+m) (bytesOf P e)=true) (hroom:¬ sLen+m≤sCap) (hb1:0 < bytesOf P e)
  (hoff:off+sLen≤xs.length) (hle:sLen≤sCap) (ha:sCap=0∨ad=some ⟨(ρ k).ablk,(ρ k).base+off * es,none⟩)
  (hT:T k) (hk:fin (envP P n gives C) o (s.upd k (.arr es (cutL xs off sLen++ys) own frz (ver+1))) (.sla k (ver+1)) K):OpOk P B n F ρ s T o a w K:=by
 obtain ⟨row,e1,e2,e3,e4⟩:=hR.hr.row hl
 have hcut:(cutL xs off sLen).length=sLen:=cutL_length hoff
 obtain ⟨cv,hcv,hsz,hrun⟩:=run_grow (F:=F) (ρ:=ρ) ho hc hts hargs ht hes hz hzv hx hm hn hr hroom hb1 (row.cut off sLen) hcut.symm hle ha
 rw [hzs,← Nat.add_mul] at hsz
 have hgc:=grownCap_ge w (sLen+m) sCap e
 rw [show sLen+m+(grownCap w (sLen+m) sCap e - (sLen+m))=grownCap w (sLen+m) sCap e by omega] at hsz
 have hsl:(sLen+m) * es≤grownCap w (sLen+m) sCap e * es:=Nat.mul_le_mul_right _ hgc
 generalize grownCap w (sLen+m) sCap e=gc at *
 have hg:Grows w (w.drew.alloc (.cells cv e)):=(Grows.drew w).trans (Grows.alloc _ _)
 have hR':=hR.grow hg
 have hcl:∀ p,clOf (w.drew.alloc (.cells cv e)) w.heap.size p=cv[p]?:=fun p=>cell_new w.drew cv e p
 have hfrz:∀ p,(w.drew.alloc (.cells cv e)).frozen? ⟨w.heap.size,p,none⟩=false:=fun p=>by
  have:=World.frozen?_alloc_mark w.drew cv e 0 0 p
  rw [show w.drew.heap.size=w.heap.size from rfl] at this
  rw [this]; simp; try omega
 have hlt:w.heap.size < (w.drew.alloc (.cells cv e)).heap.size:=by
  have:(w.drew.alloc (.cells cv e)).heap.size=w.drew.heap.size+1:=by simp
  rw [this]; exact Nat.lt_succ_self _
 have hnf:∀ p,¬ F w.heap.size p:=fun p hf=>Nat.lt_irrefl _ (hR.hr.fin _ _ hf)
 have hno:∀ j y p,look j s.hp=some y→¬ owns ρ j y w.heap.size p:=fun j y p hy hw=>Nat.lt_irrefl _ (hR.hr.free j y _ p hy hw).2.2
 refine okTurn (F':=fun q p=>F q p∨(frz=true∧q=w.heap.size∧p < (sLen+m) * es)) (ρ':=upd ρ k ⟨(ρ k).blk,w.heap.size,0,gc,sLen+m,es,ver+1⟩) hk hrun
  (hR'.turn hl _ _ _ _ w.heap.size ⟨rfl,.inr (by simp [e3])⟩ rfl (fun _ _ _=>rfl) ⟨.refl _,fun _ _=>rfl⟩ (fun _ _=>rfl) hR.fr.size hnf hno (fun _ _ h=>.inl h) (fun q p hf=>?_) ?_ (fun q p hw=>?_))
  (.turn hT hl (fun _ _ h=>.inl h) hg.size fun q p hlt _=>hg.cl hlt) (.sla (by simp [upd_same]) fun _=>by rw [upd_same]; exact ⟨rfl,rfl,.inr rfl⟩)
 ·rcases hf with h1 | ⟨_,h2,_⟩
  ·exact .inl h1
  ·exact .inr (.inr ⟨h2,hlt⟩)
 ·have hrow:Row (w.drew.alloc (.cells cv e)) (fun q p=>F q p∨(frz=true∧q=w.heap.size∧p < (sLen+m) * es)) (upd ρ k ⟨(ρ k).blk,w.heap.size,0,gc,sLen+m,es,ver+1⟩) es (cutL xs off sLen++ys) w.heap.size 0 frz:=by
   refine Row.new hcv (fun _ _ h=>.inl h) (fun q p c' hf hc'=>hg.clS hc') (fun j v hv=>?_) (fun h j hj=>.inr ⟨h,rfl,?_⟩)
   ·rw [Nat.zero_add,hcl,← Array.getElem?_toList]; exact (take_get hv).1
   ·rw [List.length_take] at hj; omega
  show _∧_
  rw [upd_same]
  refine ⟨rfl,by rw [List.length_append,hcut,hm],rfl,by rw [List.length_append,hcut,← hm]; exact hgc,hrow.wid,hrow.cell,fun _ p h1 h2=>?_⟩
  simp only at h2
  rw [hcl]
  have:p < cv.size:=by omega
  simp [this]
 ·simp only [owns,upd_same,List.length_append,hcut,← hm] at hw
  obtain ⟨h1,h2,h3⟩:=hw
  subst h1
  refine ⟨fun hf=>?_,.inr ⟨rfl,hlt,hfrz p⟩⟩
  rcases hf with hf | ⟨f1,_,f3⟩
  ·exact hnf p hf
  ·rcases h3 with ⟨h3,_⟩ | ⟨_,h3,_⟩
   ·rw [h3] at f1; cases f1
   ·omega
theorem append_new {c:Call} {t u e:TypeId} {x cx:Value} {es0 es m:Nat} {xs ys:List V} {news:List Value} {z:Value}
  (ho:o.op = .call c) (hc:c.callee = .builtin .append) (hts:c.argTypes = #[t,u]) (hargs:c.args.map a.eval = #[cx,x])
  (hR:RelF B n F ρ s a w) (hcx:VR (clOf w) F ρ (.sl es0 true xs) cx) (hxe:es0=es∨xs=[]) (ht:P.underlying t=some (.slice e)) (hes:szOf P e=es) (hz:es≠0) (hzv:((P.info? e).bind (·.zero))=some z) (hzs:z.cells.size=es)
  (hx:Adds P e u x m news w) (hm:m=ys.length) (hn:NewC w F ρ es ys news) (hr:roomOk (xs.length+ys.length) (bytesOf P e)=true) (hb1:0 < bytesOf P e)
  (hT:TD T o) (hk:fresh (envP P n gives C) o s (.arr es (xs++ys) true (!xs.isEmpty && ys.isEmpty) 0) (fun k=>.sla k 0) K):OpOk P B n F ρ s T o a w K:=by
 have hcx':VR (clOf w) F ρ (.sl es true xs) cx:=by
  rcases hxe with h | h
  ·subst h; exact hcx
  ·subst h; exact hcx.nilEs
 obtain ⟨ad,cap,g,p,rfl,hle,ha,row⟩:=row_of hR.hr (tm:=[]) hcx' (xs:=xs) rfl
 have hcap:cap=xs.length:=by
  cases hcx' with
  | sl cf hn' hc' hf ha' hw hF hv=>rw [hf rfl]
 have row:Row w F ρ es xs g p true:=row
 by_cases hm0:m=0
 ·have hy:ys=[]:=List.eq_nil_of_length_eq_zero (by omega)
  subst hy
  have hnn:news=[]:=List.eq_nil_of_length_eq_zero (by rw [hn.len]; simp)
  subst hnn
  subst hm0
  have hrun:(execOp a.eval o).run P w = .ok (.value (.slice ad xs.length cap)) w:=by
   refine run_append_op (t:=t) (u:=u) (x:=x) (y:=x) ho hc fun ty=>?_
   rw [hts,hargs]
   rw [run_append_in (P:=P) (w:=w) (t:=t) (u:=u) (e:=e) (ty:=ty) (x:=x) (m:=0) (sLen:=xs.length) (sCap:=cap) (news:=[]) (base:=ad) ht (by rw [hes]; exact hz) hx (by rw [Nat.zero_mul]; exact Nat.zero_le _) (by omega)]
   cases ad <;> simp [storeCells]
  refine okFresh (F:=F) (ρ:=ρ) (c:=.slice ad xs.length cap) (l:=⟨0,g,p,cap,xs.length,es,0⟩) hT hk hrun (fun k hkk h64=>?_) (.refl w) (fun k=>.sla (by simp [upd_same]) fun _=>by rw [upd_same]; exact ⟨rfl,rfl,ha⟩)
  have hno:∀ q i,¬ owns (upd ρ k ⟨0,g,p,cap,xs.length,es,0⟩) k (.arr es (xs++[]) true (!xs.isEmpty && ([]:List V).isEmpty) 0) q i:=fun q i hw=>by
   simp only [owns,upd_same,List.append_nil,hcap] at hw
   obtain ⟨h1,h2,h3 | h3⟩:=hw
   ·cases xs with
    | nil=>simp at h3; omega
    | cons x r=>simp at h3
   ·omega
  refine hR.bind k _ _ ?_ (fun q i hw=>absurd hw (hno q i)) (fun q i hw=>absurd hw (hno q i)) (fun q i hw=>absurd hw (hno q i)) h64
  show _∧_
  rw [upd_same,List.append_nil]
  refine ⟨rfl,rfl,rfl,hle,row.wid,fun i y j hy hj=>?_,fun _ q h1 h2=>?_⟩
  ·obtain ⟨c',c1,c2,c3,c4⟩:=row.cell i y j hy hj
   exact ⟨c',c1,c2,fun v hv=>(c3 v hv).flatρ (flat_cells (row.wid i y hy).2 hv),fun _=>c4 rfl⟩
  ·rw [hcap] at h2; simp only at h1 h2; omega
 ·have hroom:¬ xs.length+m≤cap:=by omega
  obtain ⟨cv,hcv,hsz,hrun⟩:=run_grow (F:=F) (ρ:=ρ) ho hc hts hargs ht hes hz hzv hx hm hn (by rw [hm]; exact hr) hroom hb1 row rfl hle ha
  rw [hzs,← Nat.add_mul] at hsz
  have hgc:=grownCap_ge w (xs.length+m) cap e
  rw [show xs.length+m+(grownCap w (xs.length+m) cap e - (xs.length+m))=grownCap w (xs.length+m) cap e by omega] at hsz
  have hfz:(!xs.isEmpty && ys.isEmpty)=false:=by
   cases ys with
   | nil=>exact absurd hm hm0
   | cons y r=>simp
  rw [hfz] at hk
  have hlen:(xs++ys).length=xs.length+m:=by rw [List.length_append,hm]
  refine okFresh (F:=F) (ρ:=ρ) (c:=.slice (some ⟨w.heap.size,0,none⟩) (xs.length+m) (grownCap w (xs.length+m) cap e)) (l:=⟨0,w.heap.size,0,grownCap w (xs.length+m) cap e,(xs++ys).length,es,0⟩) hT hk hrun
   (fun k hkk h64=>(hR.grow (Grows.drew w)).newRow k es (xs++ys) cv e (0,0) _ (by rw [hlen]; exact hgc) (.inl rfl) (by rw [← hsz]; exact Nat.le_refl _) hcv.wid (fun i x j hx hj=>?_) h64) ((Grows.drew w).trans (.alloc _ _)) (fun k=>by rw [hlen]; exact .slaNew)
  obtain ⟨c',c1,c2,c3⟩:=hcv.cell i x j hx hj
  exact ⟨c',by rw [← Array.getElem?_toList]; exact (take_get c1).1,c2,c3⟩
theorem append_fresh {c:Call} {t u e:TypeId} {x:Value} {k sCap es ver m:Nat} {xs ys:List V} {own frz:Bool} {ad:Option Addr} {news:List Value} {z:Value}
  (ho:o.op = .call c) (hc:c.callee = .builtin .append) (hts:c.argTypes = #[t,u]) (hargs:c.args.map a.eval = #[.slice ad xs.length sCap,x])
  (hR:RelF B n F ρ s a w) (hl:look k s.hp=some (.arr es xs own frz ver)) (ht:P.underlying t=some (.slice e)) (hes:szOf P e=es) (hz:es≠0) (hzv:((P.info? e).bind (·.zero))=some z) (hzs:z.cells.size=es)
  (hx:Adds P e u x m news w) (hm:m=ys.length) (hn:NewC w F ρ es ys news) (hr:roomOk (xs.length+m) (bytesOf P e)=true) (hroom:¬ xs.length+m≤sCap) (hb1:0 < bytesOf P e)
  (hle:xs.length≤sCap) (ha:sCap=0∨ad=some ⟨(ρ k).ablk,(ρ k).base,none⟩)
  (hT:TD T o) (hk:fresh (envP P n gives C) o s (.arr es (xs++ys) true false 0) (fun k=>.sla k 0) K):OpOk P B n F ρ s T o a w K:=by
 obtain ⟨row,e1,e2,e3,e4⟩:=hR.hr.row hl
 obtain ⟨cv,hcv,hsz,hrun⟩:=run_grow (F:=F) (ρ:=ρ) ho hc hts hargs ht hes hz hzv hx hm hn hr hroom hb1 row rfl hle ha
 rw [hzs,← Nat.add_mul] at hsz
 have hgc:=grownCap_ge w (xs.length+m) sCap e
 rw [show xs.length+m+(grownCap w (xs.length+m) sCap e - (xs.length+m))=grownCap w (xs.length+m) sCap e by omega] at hsz
 have hlen:(xs++ys).length=xs.length+m:=by rw [List.length_append,hm]
 refine okFresh (F:=F) (ρ:=ρ) (c:=.slice (some ⟨w.heap.size,0,none⟩) (xs.length+m) (grownCap w (xs.length+m) sCap e)) (l:=⟨0,w.heap.size,0,grownCap w (xs.length+m) sCap e,(xs++ys).length,es,0⟩) hT hk hrun
  (fun k hkk h64=>(hR.grow (Grows.drew w)).newRow k es (xs++ys) cv e (0,0) _ (by rw [hlen]; exact hgc) (.inl rfl) (by rw [← hsz]; exact Nat.le_refl _) hcv.wid (fun i x j hx hj=>?_) h64) ((Grows.drew w).trans (.alloc _ _)) (fun k=>by rw [hlen]; exact .slaNew)
 obtain ⟨c',c1,c2,c3⟩:=hcv.cell i x j hx hj
 exact ⟨c',by rw [← Array.getElem?_toList]; exact (take_get c1).1,c2,c3⟩
end
end Go.Proofs.YtdjldmolhkkipaaGreatDoor.Eng
end
section
set_option linter.unusedVariables false
set_option linter.unusedSimpArgs false
namespace Go.Proofs.YtdjldmolhkkipaaGreatDoor.Eng
open Go Go.Lib
section
variable {P:Program} {gives:FuncId→Bool} {C:CL}
variable {B:Base} {n:Nat} {F:Fz} {ρ:Rho} {s:S} {a:Act} {w:World} {o:Oper} {K:S→Prop} {T:Nat→Prop}
theorem cond_inv {b:Bool} {p:Prop} (h:bif b then p else False):b=true∧p:=by
 cases b
 ·exact h.elim
 ·exact ⟨rfl,h⟩
theorem ite_inv {c:Prop} [Decidable c] {p:Prop} (h:if c then p else False):c∧p:=by
 split at h
 ·exact ⟨by assumption,h⟩
 ·exact h.elim
theorem args_two (hR:RelF B n F ρ s a w) {xs:Array Operand} {x y:V} (h:xs.toList.map s.ev=[x,y]):∃ cx cy,xs.map a.eval = #[cx,cy]∧VR (clOf w) F ρ x cx∧VR (clOf w) F ρ y cy:=by
 obtain ⟨l⟩:=xs
 match l,h with
 | [p,q],h =>
  simp only [List.map_cons,List.map_nil,List.cons.injEq,and_true] at h
  obtain ⟨h1,h2⟩:=h
  subst h1; subst h2
  exact ⟨a.eval p,a.eval q,by simp,hR.ev p,hR.ev q⟩
theorem args_one (hR:RelF B n F ρ s a w) {xs:Array Operand} {x:V} (h:xs.toList.map s.ev=[x]):∃ cx,xs.map a.eval = #[cx]∧VR (clOf w) F ρ x cx:=by
 obtain ⟨l⟩:=xs
 match l,h with
 | [p],h =>
  simp only [List.map_cons,List.map_nil,List.cons.injEq,and_true] at h
  subst h
  exact ⟨a.eval p,by simp,hR.ev p⟩
theorem args_three (hR:RelF B n F ρ s a w) {xs:Array Operand} {x y z:V} (h:xs.toList.map s.ev=[x,y,z]):∃ cx cy cz,xs.map a.eval = #[cx,cy,cz]∧VR (clOf w) F ρ x cx∧VR (clOf w) F ρ y cy∧VR (clOf w) F ρ z cz:=by
 obtain ⟨l⟩:=xs
 match l,h with
 | [p,q,r],h =>
  simp only [List.map_cons,List.map_nil,List.cons.injEq,and_true] at h
  obtain ⟨h1,h2,h3⟩:=h
  subst h1; subst h2; subst h3
  exact ⟨a.eval p,a.eval q,a.eval r,by simp,hR.ev p,hR.ev q,hR.ev r⟩
theorem zeroOk_inv (w:World) {e:TypeId} (h:zeroOk P e=true):∃ i zv,P.info? e=some i∧i.zero=some zv∧zv.cells.size=szOf P e∧1≤szOf P e∧1≤bytesOf P e∧flat (ofVal zv)=true∧zeroV P e=some (ofVal zv):=by
 unfold zeroOk at h
 cases hz:zeroV P e with
 | none=>rw [hz] at h; cases h
 | some z =>
  rw [hz] at h
  simp only [Bool.and_eq_true] at h
  obtain ⟨⟨⟨h1,h2⟩,h3⟩,h4⟩:=h
  obtain ⟨i,zv,i1,i2,i3,_⟩:=zeroV_run hz
  subst i3
  have:=(zero_cells (w:=w) (F:=fun _ _=>False) (ρ:=fun _=>default) (t:=0) (i:=default) rfl h1).1
  refine ⟨i,zv,i1,i2,by rw [this]; exact Nat.eq_of_beq_eq_true h2,Nat.le_of_ble_eq_true h3,Nat.le_of_ble_eq_true h4,h1,rfl⟩
theorem bytesV_get {v:ByteArray} {i:Nat} {x:V} (h:(bytesV v)[i]? = some x):∃ b,v.data.toList[i]? = some b∧x = .c (.int .u8 b.toNat):=by
 simp only [bytesV,List.getElem?_map] at h
 cases hb:v.data.toList[i]? with
 | none=>rw [hb] at h; cases h
 | some b=>rw [hb] at h; cases h; exact ⟨b,rfl,rfl⟩
theorem NewC.bytes (v:ByteArray):NewC w F ρ 1 (bytesV v) (strCells v):=by
 refine ⟨by simp [bytesV,strCells],fun i y hy=>?_,fun i y j hy hj=>?_,fun c hc=>strCells_oneCell v c hc⟩
 ·obtain ⟨b,_,rfl⟩:=bytesV_get hy; exact ⟨rfl,rfl⟩
 ·obtain ⟨b,hb,rfl⟩:=bytesV_get hy
  have hj0:j=0:=by omega
  subst hj0
  refine ⟨.int .u8 b.toNat,by rw [Nat.mul_one,Nat.add_zero,strCells,List.getElem?_map,hb]; rfl,rfl,fun z hz=>?_⟩
  simp only [V.cells,List.getElem?_cons_zero,Option.some.injEq] at hz
  subst hz; exact .c rfl
theorem NewC.zeros {e:TypeId} {zv:Value} (m:Nat) (hs:zv.cells.size=szOf P e) (h1:1≤szOf P e) (hf:flat (ofVal zv)=true) :
  NewC w F ρ (szOf P e) (List.replicate m (ofVal zv)) (Builtin.zeroCells zv.cells m).toList:=by
 obtain ⟨c1,c2⟩:=zero_cells (w:=w) (F:=F) (ρ:=ρ) (t:=0) (i:=default) (zv:=zv) rfl hf
 have get:∀ q,q < m * szOf P e→(Builtin.zeroCells zv.cells m).toList[q]? = some zv.cells[q % szOf P e]!:=fun q hq=>by
  simp only [Builtin.zeroCells,hs,Array.toList_map,List.getElem?_map,Array.toList_range]
  rw [List.getElem?_range hq]; rfl
 have hin:∀ q,q < szOf P e→zv.cells[q]? = some zv.cells[q]!:=fun q hq=>by
  have:q < zv.cells.size:=by omega
  rw [Array.getElem?_eq_getElem this,getElem!_pos zv.cells q this]
 refine ⟨by simp [Builtin.zeroCells,hs],fun i y hy=>?_,fun i y j hy hj=>?_,fun c hc=>?_⟩
 ·obtain ⟨_,rfl⟩:=replicate_get hy; exact ⟨by rw [← c1,hs],hf⟩
 ·obtain ⟨hi,rfl⟩:=replicate_get hy
  have hm:(i * szOf P e+j) % szOf P e=j:=by rw [Nat.mul_comm,Nat.mul_add_mod,Nat.mod_eq_of_lt hj]
  refine ⟨zv.cells[j]!,?_,(c2 j _ (hin j hj)).1,fun z hz=>(c2 j _ (hin j hj)).2 z hz⟩
  rw [get _ (idx_lt hi hj),hm]
 ·obtain ⟨q,hq⟩:=List.getElem?_of_mem hc
  have hlt:q < m * szOf P e:=by
   have:=(List.getElem?_eq_some_iff.1 hq).1
   simpa [Builtin.zeroCells,hs] using this
  rw [get q hlt] at hq
  cases hq
  exact (c2 _ _ (hin _ (Nat.mod_lt _ h1))).1
theorem op_append {c:Call} {t u e:TypeId} {x:V} {cx cy:Value} {ys:List V} {news:List Value}
  (ho:o.op = .call c) (hc:c.callee = .builtin .append) (hts:c.argTypes = #[t,u]) (hargs:c.args.map a.eval = #[cx,cy])
  (hR:RelF B n F ρ s a w) (hcx:VR (clOf w) F ρ x cx) (ht:isSlice P t=some e)
  (hx:Adds P e u cy ys.length news w) (hn:NewC w F ρ (szOf P e) ys news)
  (hT:TD T o) (hTk:∀ k∈skeys x,T k) (hk:appendC (envP P n gives C) o t x ys s K):OpOk P B n F ρ s T o a w K:=by
 have hts':=isSlice_some ht
 simp only [appendC,envP,ht] at hk
 cases hzo:zeroOk P e with
 | false=>simp [hzo] at hk
 | true =>
 simp only [hzo,Bool.not_true,cond_false] at hk
 obtain ⟨i,zv,i1,i2,i3,i4,i5,i6,i7⟩:=zeroOk_inv w hzo
 have hzv:((P.info? e).bind (·.zero))=some zv:=by rw [i1]; exact i2
 have hfit:∀ q,roomOk (q+ys.length) (bytesOf P e)=true→ys.length * bytesOf P e≤281474976710656:=fun q h=>by
  unfold roomOk at h
  rw [decide_eq_true_eq] at h
  have:ys.length * bytesOf P e≤(q+ys.length+1000) * bytesOf P e:=Nat.mul_le_mul_right _ (by omega)
  omega
 split at hk
 ·rename_i es0 xs
  obtain ⟨hb,hk⟩:=cond_inv hk
  obtain ⟨hr,hk⟩:=ite_inv hk
  refine append_new ho hc hts hargs hR hcx ?_ hts' rfl (by omega) hzv i3 hx rfl hn hr (by omega) hT hk
  simp only [Bool.or_eq_true,List.isEmpty_iff] at hb
  rcases hb with h | h
  ·exact .inl (Nat.eq_of_beq_eq_true h)
  ·exact .inr h
 ·rename_i k v
  split at hk
  ·rename_i es xs own frz ver hl
   obtain ⟨hb,hk⟩:=cond_inv hk
   obtain ⟨hown,hk⟩:=ite_inv hk
   obtain ⟨hr,hk⟩:=ite_inv hk
   subst hown
   simp only [Bool.and_eq_true] at hb
   have hv:=Nat.eq_of_beq_eq_true hb.1
   have he:=Nat.eq_of_beq_eq_true hb.2
   subst he
   subst hv
   obtain ⟨row,e1,e2,e3,e4⟩:=hR.hr.row hl
   cases hcx with
   | sla hv h =>
    rename_i m cap ad
    obtain ⟨b1,b2,b3⟩:=h e3.symm
    have hcut:cutL xs 0 xs.length=xs:=by simp [cutL]
    rw [b1,e2] at hargs
    cases hka:keepsA (envP P n gives C) o with
    | true =>
     have hka':keepsA { P:=P,n:=n,f:=False,both:=And,gives:=gives,call:=C.call,loop:=C.loop } o=true:=hka
     rw [hka'] at hk
     obtain ⟨hk1,hk2⟩:=hk
     by_cases hroom:xs.length+ys.length≤cap
     ·exact append_keep (C:=C) (gives:=gives) ho hc hts hargs hR hl hts' rfl (by omega) hx rfl hn (hfit _ hr) hroom (by omega) b3 (hTk _ (.head _)) hk1
     ·exact append_fresh (C:=C) (gives:=gives) ho hc hts hargs hR hl hts' rfl (by omega) hzv i3 hx rfl hn hr hroom (by omega) (by omega) b3 hT hk2
    | false =>
    have hka':keepsA { P:=P,n:=n,f:=False,both:=And,gives:=gives,call:=C.call,loop:=C.loop } o=false:=hka
    rw [hka'] at hk
    simp only [cond_false] at hk
    by_cases hroom:xs.length+ys.length≤cap
    ·refine append_in (C:=C) (gives:=gives) (off:=0) ho hc hts hargs hR hl hts' rfl (by omega) hx rfl hn (hfit _ hr) hroom (by omega) (by omega) (by rw [Nat.zero_mul,Nat.add_zero]; exact b3) (.inr (Nat.zero_add _)) (hTk _ (.head _)) ?_
     rw [hcut]; exact hk
    ·refine append_out (C:=C) (gives:=gives) (off:=0) ho hc hts hargs hR hl hts' rfl (by omega) hzv i3 hx rfl hn hr hroom (by omega) (by omega) (by omega) (by rw [Nat.zero_mul,Nat.add_zero]; exact b3) (hTk _ (.head _)) ?_
     rw [hcut]; exact hk
  ·exact hk.elim
 ·rename_i k off len v
  split at hk
  ·rename_i es xs own frz ver hl
   obtain ⟨hb,hk⟩:=cond_inv hk
   obtain ⟨hown,hk⟩:=ite_inv hk
   obtain ⟨hfz,hk⟩:=ite_inv hk
   obtain ⟨hr,hk⟩:=ite_inv hk
   subst hown
   simp only [Bool.and_eq_true] at hb
   have hv:=Nat.eq_of_beq_eq_true hb.1
   have he:=Nat.eq_of_beq_eq_true hb.2
   subst he
   subst hv
   obtain ⟨row,e1,e2,e3,e4⟩:=hR.hr.row hl
   cases hcx with
   | slm hv h =>
    rename_i m cap ad
    obtain ⟨b1,b2,b3,b4⟩:=h e3.symm
    rw [e1] at b4
    subst b1
    by_cases hroom:m+ys.length≤cap
    ·exact append_in ho hc hts hargs hR hl hts' rfl (by omega) hx rfl hn (hfit _ hr) hroom (by omega) (by omega) b4 hfz (hTk _ (.head _)) hk
    ·exact append_out ho hc hts hargs hR hl hts' rfl (by omega) hzv i3 hx rfl hn hr hroom (by omega) (by omega) (by omega) b4 (hTk _ (.head _)) hk
  ·exact hk.elim
 ·exact hk.elim
theorem op_appendB {c:Call} {t u:TypeId} {x y:V} {cx cy:Value} (ho:o.op = .call c) (hc:c.callee = .builtin .append) (hts:c.argTypes = #[t,u]) (hargs:c.args.map a.eval = #[cx,cy])
  (hR:RelF B n F ρ s a w) (hcx:VR (clOf w) F ρ x cx) (hcy:VR (clOf w) F ρ y cy) (hT:TD T o) (hTk:∀ k∈skeys x,T k) (hk:appendB (envP P n gives C) o t u x y s K):OpOk P B n F ρ s T o a w K:=by
 unfold appendB at hk
 split at hk
 ·exact hk.elim
 rename_i e ht
 split at hk
 ·rename_i v
  obtain ⟨hb,hk⟩:=cond_inv hk
  simp only [Bool.and_eq_true] at hb
  have hsz:=Nat.eq_of_beq_eq_true hb.2
  have:=hcy.c_inv
  subst this
  refine op_append (news:=strCells v) ho hc hts hargs hR hcx ht ⟨.inl ⟨.string,isStr_some hb.1,.inr rfl,fun w'=>?_,fun w' _=>?_⟩⟩ (by rw [show szOf P e=1 from hsz]; exact .bytes v) hT hTk hk
  ·simp [Builtin.lenOf,bytesV]
  ·have:(bytesV v).length=v.size:=by simp [bytesV]
   rw [this,show szOf P e=1 from hsz]
   exact run_firstCells_string w' 1 v
 ·rename_i m
  split at hk
  ·rename_i z hz
   obtain ⟨hb,hk⟩:=cond_inv hk
   obtain ⟨hm,hk⟩:=ite_inv hk
   simp only [Bool.and_eq_true] at hb
   obtain ⟨⟨h1,h2⟩,h3⟩:=hb
   have hz:zeroV P e=some z:=hz
   obtain ⟨i,zv,i1,i2,i3,_⟩:=zeroV_run hz
   subst i3
   have hzo:zeroOk P e=true:=by
    unfold appendC at hk
    have ht:isSlice (envP P n gives C).P t=some e:=ht
    rw [ht] at hk
    cases hb:zeroOk (envP P n gives C).P e with
    | true=>exact hb
    | false=>simp [hb] at hk; exact hk.elim
   obtain ⟨i',zv',j1,j2,j3,j4,j5,j6,j7⟩:=zeroOk_inv w hzo
   rw [i1] at j1
   cases j1
   rw [i2] at j2
   cases j2
   have:=hcy.c_inv
   subst this
   obtain ⟨q,rfl⟩:∃ q:Nat,m=q:=⟨m.toNat,by omega⟩
   refine op_append (news:=(Builtin.zeroCells zv.cells q).toList) ho hc hts hargs hR hcx ht ⟨.inr ⟨.i64,q,zv,isInt_some h3,rfl,by simp,by omega,by rw [i1]; exact i2,by simp,j3⟩⟩ ?_ hT hTk hk
   exact .zeros q j3 j4 j6
  ·exact hk.elim
 ·split at hk
  ·rename_i e' ys hu hcn
   obtain ⟨hb,hk⟩:=cond_inv hk
   obtain ⟨ad,cap,g,p,rfl,hle,ha,row⟩:=row_of (tm:=s.tm) hR.hr hcy (xs:=ys) hcn
   have hrow:∃ frz,Row w F ρ (szOf P e) ys g p frz:=by
    simp only [Bool.or_eq_true,List.isEmpty_iff] at hb
    rcases hb with h | h
    ·have:=Nat.eq_of_beq_eq_true h
     exact ⟨_,this ▸ row⟩
    ·subst h
     exact ⟨false,⟨fun i x hx=>by simp at hx,fun i x j hx=>by simp at hx⟩⟩
   obtain ⟨frz,hrow⟩:=hrow
   obtain ⟨cs,c1,c2⟩:=hrow.cells
   refine op_append (news:=cs) ho hc hts hargs hR hcx ht ⟨.inl ⟨_,isSlice_some hu,.inl ⟨_,rfl⟩,fun w'=>by simp [Builtin.lenOf],fun w' hw=>?_⟩⟩ c1 hT hTk hk
   refine run_first c1.len hle ha (fun j v hv=>?_)
   rw [← c2 j v hv]; exact hw _
  ·exact hk.elim
theorem run_builtin_op {c:Call} {b:Builtin} {r:Value} {w':World} (ho:o.op = .call c) (hc:c.callee = .builtin b)
  (hT:∀ ty cs,(Go.builtin b c.argTypes ty cs (c.args.map a.eval)).run P w = .ok (.value r) w'):(execOp a.eval o).run P w = .ok (.value r) w':=by
 obtain ⟨ty,cs,h⟩:=run_builtin (P:=P) (w:=w) (a:=a) ho hc
 rw [h]; exact hT ty cs
theorem sliceOf_some {t:Option TypeId} {e:TypeId} (h:sliceOf P t=some e):∃ t',t=some t'∧P.underlying t'=some (.slice e):=by
 cases t with
 | none=>cases h
 | some t=>exact ⟨t,rfl,isSlice_some h⟩
theorem lenOf_some (hR:RelF B n F ρ s a w) {x:V} {c:Value} {m:Nat} (hv:VR (clOf w) F ρ x c) (h:lenOf s x=some m):∃ ad cap,c = .slice ad m cap:=by
 unfold lenOf at h
 split at h
 ·cases h
  cases hv with
  | sl cf hn=>subst hn; exact ⟨_,_,rfl⟩
 ·rename_i k v
  split at h
  ·rename_i es xs own frz ver hl
   cases hb:Nat.beq v ver
   ·rw [hb] at h; cases h
   ·rw [hb] at h; cases h
    have:=Nat.eq_of_beq_eq_true hb
    obtain ⟨_,e1,e2,e3,e4⟩:=hR.hr.row hl
    cases hv with
    | sla hv h=>obtain ⟨b1,_⟩:=h (by omega); exact ⟨_,_,by rw [b1,e2]⟩
  ·rename_i xs hl
   cases h
   obtain ⟨e1,e2,e3,e4,e5,e6⟩:=hR.hr.sr k _ hl
   cases hv with
   | sla hv h=>obtain ⟨b1,_⟩:=h (by omega); exact ⟨_,_,by rw [b1,e2]⟩
  ·cases h
 ·rename_i k off len v
  split at h
  ·rename_i es xs own frz ver hl
   cases hb:Nat.beq v ver
   ·rw [hb] at h; cases h
   ·rw [hb] at h; cases h
    have:=Nat.eq_of_beq_eq_true hb
    obtain ⟨_,e1,e2,e3,e4⟩:=hR.hr.row hl
    cases hv with
    | slm hv h=>obtain ⟨b1,_⟩:=h (by omega); exact ⟨_,_,by rw [b1]⟩
  ·cases h
 ·cases h
theorem op_lenB {c:Call} {x:V} {cx:Value} (ho:o.op = .call c) (hc:c.callee = .builtin .len) (hargs:c.args.map a.eval = #[cx])
  (hR:RelF B n F ρ s a w) (hcx:VR (clOf w) F ρ x cx) (hk:lenB (envP P n gives C) o c.argTypes[0]? x s K):PurOk C P n gives F ρ s o a w K:=by
 unfold lenB at hk
 split at hk
 ·rename_i v
  obtain ⟨hb,hk⟩:=cond_inv hk
  have:=hcx.c_inv
  subst this
  have:∃ t,c.argTypes[0]? = some t∧isStr P t=true:=by
   unfold strOf at hb
   split at hb
   ·rename_i t ht; exact ⟨t,ht,hb⟩
   ·cases hb
  obtain ⟨t,ht,hs⟩:=this
  refine okPur hk (fun w=>run_builtin_op ho hc fun ty cs=>?_) hR (.c rfl)
  rw [hargs]
  simp [Go.builtin,Builtin.len_,ht,run_underlying (isStr_some hs),goInt]
 ·split at hk
  ·rename_i e m he hl
   obtain ⟨t,ht,hs⟩:=sliceOf_some (P:=P) he
   obtain ⟨ad,cap,rfl⟩:=lenOf_some hR hcx hl
   refine okPur hk (fun w=>run_builtin_op ho hc fun ty cs=>?_) hR (.c rfl)
   rw [hargs]
   simp [Go.builtin,Builtin.len_,ht,run_underlying hs,goInt]
  ·exact hk.elim
theorem op_capB {c:Call} {x:V} {cx:Value} (ho:o.op = .call c) (hc:c.callee = .builtin .cap) (hargs:c.args.map a.eval = #[cx])
  (hR:RelF B n F ρ s a w) (hcx:VR (clOf w) F ρ x cx) (hk:capB (envP P n gives C) o c.argTypes[0]? x s K):PurOk C P n gives F ρ s o a w K:=by
 unfold capB at hk
 split at hk
 ·split at hk
  ·rename_i xs _ e he
   obtain ⟨t,ht,hs⟩:=sliceOf_some (P:=P) he
   cases hcx with
   | sl cf hn hcc hf _ _ _ _ =>
    have:=hf rfl
    refine okPur hk (fun w=>run_builtin_op ho hc fun ty cs=>?_) hR (.c rfl)
    rw [hargs]
    simp [Go.builtin,Builtin.cap_,ht,run_underlying hs,goInt,this,hn]
  ·exact hk.elim
 ·exact hk.elim
theorem op_minB {c:Call} {x y:V} {cx cy:Value} (ho:o.op = .call c) (hc:c.callee = .builtin .min) (hargs:c.args.map a.eval = #[cx,cy])
  (hR:RelF B n F ρ s a w) (hcx:VR (clOf w) F ρ x cx) (hcy:VR (clOf w) F ρ y cy) (hk:minB (envP P n gives C) o x y s K):PurOk C P n gives F ρ s o a w K:=by
 unfold minB at hk
 split at hk
 ·have:=hcx.c_inv; subst this
  have:=hcy.c_inv; subst this
  refine okPur hk (fun w=>run_builtin_op ho hc fun ty cs=>?_) hR (.c rfl)
  rw [hargs]
  simp [Go.builtin,Builtin.min_,Builtin.min2]
 ·exact hk.elim
theorem op_maxB {c:Call} {x y:V} {cx cy:Value} (ho:o.op = .call c) (hc:c.callee = .builtin .max) (hargs:c.args.map a.eval = #[cx,cy])
  (hR:RelF B n F ρ s a w) (hcx:VR (clOf w) F ρ x cx) (hcy:VR (clOf w) F ρ y cy) (hk:maxB (envP P n gives C) o x y s K):PurOk C P n gives F ρ s o a w K:=by
 unfold maxB at hk
 split at hk
 ·have:=hcx.c_inv; subst this
  have:=hcy.c_inv; subst this
  refine okPur hk (fun w=>run_builtin_op ho hc fun ty cs=>?_) hR (.c rfl)
  rw [hargs]
  simp [Go.builtin,Builtin.max_,Builtin.max2]
 ·exact hk.elim
theorem op_min3B {c:Call} {x y z:V} {cx cy cz:Value} (ho:o.op = .call c) (hc:c.callee = .builtin .min) (hargs:c.args.map a.eval = #[cx,cy,cz])
  (hR:RelF B n F ρ s a w) (hcx:VR (clOf w) F ρ x cx) (hcy:VR (clOf w) F ρ y cy) (hcz:VR (clOf w) F ρ z cz) (hk:min3B (envP P n gives C) o x y z s K):PurOk C P n gives F ρ s o a w K:=by
 unfold min3B at hk
 split at hk
 ·have:=hcx.c_inv; subst this
  have:=hcy.c_inv; subst this
  have:=hcz.c_inv; subst this
  refine okPur hk (fun w=>run_builtin_op ho hc fun ty cs=>?_) hR (.c rfl)
  rw [hargs]
  simp [Go.builtin,Builtin.min_,Builtin.min2]
 ·exact hk.elim
theorem drop_get {α:Type} {xs:List α} {m i:Nat}:(xs.drop m)[i]? = xs[m+i]?:=List.getElem?_drop
theorem op_copyB {c:Call} {x y:V} {cx cy:Value} (ho:o.op = .call c) (hc:c.callee = .builtin .copy) (hargs:c.args.map a.eval = #[cx,cy])
  (hR:RelF B n F ρ s a w) (hcx:VR (clOf w) F ρ x cx) (hcy:VR (clOf w) F ρ y cy) (hTk:∀ k∈skeys x,T k) (hk:copyB (envP P n gives C) o c.argTypes[0]? x y s K):OpOk P B n F ρ s T o a w K:=by
 unfold copyB at hk
 split at hk
 case h_2=>exact hk.elim
 rename_i k v b
 split at hk
 case h_2=>exact hk.elim
 rename_i es xs own frz ver e hl he
 obtain ⟨hb,hk⟩:=cond_inv hk
 obtain ⟨hfz,hk⟩:=ite_inv hk
 obtain ⟨hle,hk⟩:=ite_inv hk
 subst hfz
 simp only [Bool.and_eq_true] at hb
 obtain ⟨⟨h1,h2⟩,h3⟩:=hb
 have h1:=Nat.eq_of_beq_eq_true h1
 have h2:=Nat.eq_of_beq_eq_true h2
 have h3:szOf P e=1:=Nat.eq_of_beq_eq_true h3
 subst h1
 subst h2
 obtain ⟨t,ht,hs⟩:=sliceOf_some (P:=P) he
 have:=hcy.c_inv
 subst this
 obtain ⟨row,e1,e2,e3,e4⟩:=hR.hr.row hl
 obtain ⟨_,_,_,_,_,_,e7⟩:=hR.hr.sr k _ hl
 obtain ⟨ad,cap,rfl,had⟩:∃ ad cap,cx = .slice ad xs.length cap∧(xs.length=0∨ad=some ⟨(ρ k).ablk,(ρ k).base,none⟩):=by
  cases hcx with
  | sla hv h =>
   obtain ⟨b1,b2,b3⟩:=h e3.symm
   refine ⟨_,_,by rw [b1,e2],?_⟩
   rcases b3 with b3 | b3
   ·left; omega
   ·right; exact b3
 have hbl:(strCells b).length=b.size:=strCells_length b
 have hvl:(bytesV b).length=b.size:=by simp [bytesV]
 have hown:∀ q,q < xs.length→owns ρ k (.arr 1 xs own false v) (ρ k).ablk ((ρ k).base+q):=fun q hq=>⟨rfl,by omega,.inl ⟨rfl,by omega⟩⟩
 have hF1:∀ q p,F q p→¬ owns ρ k (.arr 1 xs own false v) q p:=fun q p hf hw=>(hR.hr.free k _ _ _ hl hw).1 hf
 have hsome:∀ j,j < xs.length→(clOf w (ρ k).ablk ((ρ k).base+j)).isSome=true:=fun j hj=>by
  obtain ⟨c,c1,_⟩:=row.cell j _ 0 (List.getElem?_eq_getElem hj) (by omega)
  rw [Nat.mul_one,Nat.add_zero] at c1
  rw [c1]; rfl
 have hsame:∀ q p,¬ owns ρ k (.arr 1 xs own false v) q p→clOf (w.setCells (ρ k).ablk (ρ k).base (strCells b)) q p=clOf w q p:=fun q p hno=>by
  refine setCells_out _ _ _ _ _ _ fun he=>?_
  subst he
  rw [hbl]
  by_cases h1:p < (ρ k).base
  ·exact .inl h1
  ·by_cases h2:p < (ρ k).base+b.size
   ·have:=hown (p - (ρ k).base) (by omega)
    rw [show (ρ k).base+(p - (ρ k).base)=p by omega] at this
    exact absurd this hno
   ·right; omega
 have hrun:(execOp a.eval o).run P w = .ok (.value (goInt b.size)) (w.setCells (ρ k).ablk (ρ k).base (strCells b)):=by
  refine run_builtin_op ho hc fun ty cs=>?_
  rw [hargs]
  have hmin:Nat.min b.size xs.length=b.size:=Nat.min_eq_left hle
  have hf:=run_firstCells_string (P:=P) w 1 b
  have hst:=run_storeCells_cells (P:=P) (ρ k).ablk (ρ k).base (strCells b) 0 w (fun j hj=>by rw [Nat.add_zero]; exact hsome j (by omega))
   (fun j hj=>by rw [Nat.add_zero]; exact (hR.hr.free k _ _ _ hl (hown j (by omega))).2.1) (strCells_oneCell b)
  rw [Nat.add_zero] at hst
  have hsz:=run_sizeOf' (P:=P) (t:=e) (by omega)
  rw [h3] at hsz
  rcases had with h0 | h0
  ·have hb0:b.size=0:=by omega
   have hs0:strCells b=[]:=List.eq_nil_of_length_eq_zero (by omega)
   rw [hs0] at hst hf ⊢
   rw [hb0] at hf
   cases ad <;> simp [Go.builtin,Builtin.copy_,ht,run_underlying hs,Builtin.lenOf,hmin,hsz,hb0,hf,storeCells,World.setCells]
  ·subst h0
   simp [Go.builtin,Builtin.copy_,ht,run_underlying hs,Builtin.lenOf,hmin,hsz,hf,hst]
 have hget:∀ i x,(bytesV b++xs.drop b.size)[i]? = some x→(i < b.size∧(bytesV b)[i]? = some x)∨(b.size≤i∧xs[i]? = some x):=fun i x hx=>by
  rw [List.getElem?_append,hvl] at hx
  split at hx
  ·exact .inl ⟨by assumption,hx⟩
  ·rw [drop_get] at hx
   right
   refine ⟨by omega,?_⟩
   rwa [show b.size+(i - b.size)=i by omega] at hx
 have hlen:(bytesV b++xs.drop b.size).length=xs.length:=by rw [List.length_append,hvl,List.length_drop]; omega
 refine okTurn (F':=F) (ρ':=upd ρ k (ρ k)) hk hrun
  (hR.turn hl _ (ρ k) F _ w.heap.size (agree.refl _) (setCells_size _ _ _ _) hsame ⟨setCells_wd _ _ _ _,fun q p=>World.frozen?_setCells _ _ _ _ _⟩ (fun q hno=>?_) hR.fr.size
   (fun q hf=>Nat.lt_irrefl _ (hR.hr.fin _ _ hf)) (fun j y' q hy' ho'=>Nat.lt_irrefl _ (hR.hr.free j y' _ q hy' ho').2.2) (fun _ _ h=>h) (fun _ _ h=>.inl h) ?_ (fun q p hw=>?_)) (.turn (hTk _ (.head _)) hl (fun _ _ h=>h) (Nat.le_of_eq (setCells_size _ _ _ _).symm) fun q p _ hno=>hsame q p hno) (.c rfl)
 ·by_cases he:q=(ρ k).ablk
  ·subst he
   by_cases hm0:b.size=0
   ·have:strCells b=[]:=List.eq_nil_of_length_eq_zero (by omega)
    rw [this]; rfl
   ·exact absurd (hown 0 (by omega)) (hno _)
  ·exact setCells_heap _ _ he _ _ _
 ·rw [upd_self]
  have mono:∀ {y:V} {c:Value},VR (clOf w) F ρ y c→VR (clOf (w.setCells (ρ k).ablk (ρ k).base (strCells b))) F ρ y c:=fun hv =>
   hv.mono (fun _ _ h=>h) (fun q p c' hf hc'=>by rw [hsame q p (hF1 q p hf)]; exact hc') (fun _ _=>agree.refl _)
  refine ⟨e1,by rw [hlen,e2],e3,by rw [hlen]; exact e4,fun i x hx=>?_,fun i x j hx hj=>?_,fun hon p h1 h2=>?_⟩
  ·rcases hget i x hx with ⟨_,h⟩ | ⟨_,h⟩
   ·obtain ⟨u,_,rfl⟩:=bytesV_get h; exact ⟨rfl,rfl⟩
   ·exact row.wid i x h
  ·have hj0:j=0:=by omega
   subst hj0
   rw [Nat.mul_one,Nat.add_zero]
   rcases hget i x hx with ⟨hi,h⟩ | ⟨hi,h⟩
   ·obtain ⟨u,hu,rfl⟩:=bytesV_get h
    refine ⟨.int .u8 u.toNat,?_,rfl,fun y hy=>?_,fun h=>by cases h⟩
    ·have:=setCells_in (ρ k).ablk (strCells b) (ρ k).base w (fun j hj=>hsome j (by omega)) i (.int .u8 u.toNat) (by rw [strCells,List.getElem?_map,hu]; rfl)
     exact this
    ·simp only [V.cells,List.getElem?_cons_zero,Option.some.injEq] at hy
     subst hy; exact .c rfl
   ·obtain ⟨c',c1,c2,c3,c4⟩:=row.cell i x 0 h (by omega)
    rw [Nat.mul_one,Nat.add_zero] at c1
    refine ⟨c',?_,c2,fun y hy=>mono (c3 y hy),fun h=>by cases h⟩
    rw [setCells_out]; exact c1
    intro _; right; omega
  ·rw [hlen,Nat.mul_one] at h1
   rw [setCells_out]
   ·exact e7 hon p (by omega) h2
   ·intro _; right; omega
 ·rw [upd_self] at hw
  have:owns ρ k (.arr 1 xs own false v) q p:=by
   simp only [owns,hlen] at hw ⊢; exact hw
  exact ⟨fun hf=>hF1 _ _ hf this,.inl this⟩
theorem op_builtin {c:Call} {b:Builtin} (ho:o.op = .call c) (hc:c.callee = .builtin b) (hR:RelF B n F ρ s a w) (hT:TD T o) (hTk:∀ x∈(c.args.toList.map s.ev).head?,b = .append∨b = .copy→∀ k∈skeys x,T k)
  (hk:builtinC (envP P n gives C) o b c.argTypes (c.args.toList.map s.ev) s K):OpOk P B n F ρ s T o a w K:=by
 unfold builtinC at hk
 split at hk
 ·rename_i x hx
  obtain ⟨cx,h1,h2⟩:=args_one hR hx
  split at hk
  ·exact (op_lenB ho hc h1 hR h2 hk).ok hR
  ·exact (op_capB ho hc h1 hR h2 hk).ok hR
  ·exact hk.elim
 ·rename_i x y hx
  obtain ⟨cx,cy,h1,h2,h3⟩:=args_two hR hx
  split at hk
  ·split at hk
   ·rename_i t u htu
    have:c.argTypes = #[t,u]:=by
     rw [← Array.toArray_toList (xs:=c.argTypes),htu]
    exact op_appendB ho hc this h1 hR h2 h3 hT (hTk x (by rw [hx]; rfl) (.inl rfl)) hk
   ·exact hk.elim
  ·exact op_copyB ho hc h1 hR h2 h3 (hTk x (by rw [hx]; rfl) (.inr rfl)) hk
  ·exact (op_minB ho hc h1 hR h2 h3 hk).ok hR
  ·exact (op_maxB ho hc h1 hR h2 h3 hk).ok hR
  ·exact hk.elim
 ·rename_i x y z hx
  obtain ⟨cx,cy,cz,h1,h2,h3,h4⟩:=args_three hR hx
  split at hk
  ·exact (op_min3B ho hc h1 hR h2 h3 h4 hk).ok hR
  ·exact hk.elim
 ·exact hk.elim
end
end Go.Proofs.YtdjldmolhkkipaaGreatDoor.Eng
end
section
set_option linter.unusedVariables false
set_option linter.unusedSimpArgs false
namespace Go.Proofs.YtdjldmolhkkipaaGreatDoor.Eng
open Go Go.Lib
section
variable {P:Program} {gives:FuncId→Bool} {C:CL}
variable {B:Base} {n:Nat} {F:Fz} {ρ:Rho} {s:S} {a:Act} {w:World} {o:Oper} {K:S→Prop} {T:Nat→Prop}
theorem ok_nilCheck {x:Operand} (ho:o.op = .nilCheck x) (hR:RelF B n F ρ s a w) (hk:nilCheckC (envP P n gives C) o (s.ev x) s K):PurOk C P n gives F ρ s o a w K:=by
 unfold nilCheckC at hk
 split at hk
 ·rename_i k f hx; exact op_nilCheck ho hR hx (.inl ⟨_,_,rfl⟩) hk
 ·rename_i hx; exact op_nilCheck ho hR hx (.inr (.inl ⟨_,_,_,_,rfl⟩)) hk
 ·rename_i hx; exact op_nilCheck ho hR hx (.inr (.inr (.inl ⟨_,_,_,rfl⟩))) hk
 ·rename_i hx; exact op_nilCheck ho hR hx (.inr (.inr (.inr ⟨_,_,_,rfl⟩))) hk
 ·exact hk.elim
theorem ok_un {u:UnOp} {t:TypeId} {x:Operand} (ho:o.op = .unOp u t x) (hR:RelF B n F ρ s a w) (hk:unC (envP P n gives C) o u (s.ev x) s K):PurOk C P n gives F ρ s o a w K:=by
 unfold unC at hk
 split at hk
 ·rename_i hx; exact op_not ho hR hx hk
 ·rename_i hx; exact op_neg ho hR hx hk
 ·rename_i hx; exact op_cpl ho hR hx hk
 ·exact hk.elim
theorem ok_convert {src dst:TypeId} {x:Operand} (ho:o.op = .convert src dst x) (hR:RelF B n F ρ s a w) (hT:TD T o) (hk:convertC (envP P n gives C) o src dst (s.ev x) s K):OpOk P B n F ρ s T o a w K:=by
 unfold convertC at hk
 split at hk
 ·rename_i k i hx
  split at hk
  ·rename_i k' hd
   obtain ⟨hs,hk⟩:=cond_inv hk
   exact (op_convertInt ho hR hx hs hd hk).ok hR
  ·exact hk.elim
 ·rename_i v hx
  split at hk
  ·rename_i e he
   obtain ⟨hb,hk⟩:=cond_inv hk
   simp only [Bool.and_eq_true] at hb
   exact op_stringBytes ho hR hx hb.1.2 he hb.1.1 hT hk
  ·obtain ⟨hb,hk⟩:=cond_inv hk
   simp only [Bool.and_eq_true] at hb
   exact (op_convertStr ho hR hx hb.2 hb.1 hk).ok hR
 ·split at hk
  ·rename_i e xs he hc
   obtain ⟨hb,hk⟩:=cond_inv hk
   obtain ⟨hu,hk⟩:=ite_inv hk
   simp only [Bool.and_eq_true] at hb
   exact op_bytesString ho hR he hb.1 hb.2 hc hu hk
  ·exact hk.elim
theorem ok_makeInterface {t:TypeId} {x:Operand} (ho:o.op = .makeInterface t x) (hR:RelF B n F ρ s a w) (hk:makeIfC (envP P n gives C) o t (s.ev x) s K):PurOk C P n gives F ρ s o a w K:=by
 unfold makeIfC at hk
 split at hk
 ·rename_i v hv hi
  have hi:isIface P t=some false:=hi
  unfold isIface at hi
  split at hi
  ·cases hi
  ·rename_i d hno hd; exact op_makeInterface ho hR hv hd (fun ms h=>hno ms (by rw [h])) hk
  ·cases hi
 ·exact hk.elim
theorem ok_makeSlice {t:TypeId} {x y:Operand} (ho:o.op = .makeSlice t x y) (hR:RelF B n F ρ s a w) (hT:TD T o) (hk:makeSliceC (envP P n gives C) o t (s.ev x) (s.ev y) s K):OpOk P B n F ρ s T o a w K:=by
 unfold makeSliceC at hk
 split at hk
 ·rename_i e i m he hi hm
  split at hk
  ·rename_i z hz
   obtain ⟨hb,hk⟩:=cond_inv hk
   obtain ⟨hr,hk⟩:=ite_inv hk
   simp only [Bool.and_eq_true] at hb
   exact op_makeSlice ho hR he hi hm hz hb.1.1 (Nat.eq_of_beq_eq_true hb.1.2) (Nat.le_of_ble_eq_true hb.2) hr hT hk
  ·exact hk.elim
 ·exact hk.elim
theorem ok_fieldAddr {t:TypeId} {x:Operand} {i:Nat} (ho:o.op = .fieldAddr t x i) (hR:RelF B n F ρ s a w) (hk:fieldAddrC (envP P n gives C) o t (s.ev x) i s K):PurOk C P n gives F ρ s o a w K:=by
 unfold fieldAddrC at hk
 split at hk
 ·rename_i f hf
  cases hz:Nat.beq (szOf (envP P n gives C).P f.type) 0 with
  | true=>rw [hz] at hk; exact hk.elim
  | false =>
  rw [hz] at hk
  have hz':szOf P f.type≠0:=fun h=>by
   have h:szOf (envP P n gives C).P f.type=0:=h
   rw [h] at hz; cases hz
  simp only [cond_false] at hk
  split at hk
  ·rename_i hx; exact op_fieldAddr ho hR hf hz' hx (.inl ⟨_,_,rfl,rfl⟩) hk
  ·rename_i hx; exact op_fieldAddr ho hR hf hz' hx (.inr (.inl ⟨_,_,_,_,rfl,rfl⟩)) hk
  ·rename_i hx; exact op_fieldAddr ho hR hf hz' hx (.inr (.inr ⟨_,_,_,rfl,rfl⟩)) hk
  ·exact hk.elim
 ·exact hk.elim
theorem ok_indexAddr {t:TypeId} {x y:Operand} (ho:o.op = .indexAddr t x y) (hR:RelF B n F ρ s a w) (hk:indexAddrC (envP P n gives C) o t (s.ev x) (s.ev y) s K):PurOk C P n gives F ρ s o a w K:=by
 unfold indexAddrC at hk
 split at hk
 case h_2=>exact hk.elim
 rename_i i hi
 obtain ⟨k,hy⟩:=ints_some hi
 split at hk
 ·rename_i m e ht
  cases hz:Nat.beq (szOf (envP P n gives C).P e) 0 with
  | true=>rw [hz] at hk; exact hk.elim
  | false =>
  rw [hz] at hk
  have hz':szOf P e≠0:=fun h=>by
   have h:szOf (envP P n gives C).P e=0:=h
   rw [h] at hz; cases hz
  simp only [cond_false,indexArrC] at hk
  obtain ⟨hr,hk⟩:=ite_inv hk
  split at hk
  ·rename_i hx; exact op_indexArr ho hR ht hz' hy hr hx (.inl ⟨_,_,rfl,rfl⟩) hk
  ·rename_i hx; exact op_indexArr ho hR ht hz' hy hr hx (.inr (.inl ⟨_,_,_,_,rfl,rfl⟩)) hk
  ·rename_i hx; exact op_indexArr ho hR ht hz' hy hr hx (.inr (.inr ⟨_,_,_,rfl,rfl⟩)) hk
  ·exact hk.elim
 ·split at hk
  case h_2=>exact hk.elim
  rename_i e ht
  cases hz:Nat.beq (szOf (envP P n gives C).P e) 0 with
  | true=>rw [hz] at hk; exact hk.elim
  | false =>
  rw [hz] at hk
  have hz':szOf P e≠0:=fun h=>by
   have h:szOf (envP P n gives C).P e=0:=h
   rw [h] at hz; cases hz
  simp only [cond_false,indexSlC] at hk
  split at hk
  ·rename_i es fl xs hx
   obtain ⟨hb,hk⟩:=cond_inv hk
   obtain ⟨hr,hk⟩:=ite_inv hk
   have:=Nat.eq_of_beq_eq_true hb
   exact op_indexSl ho hR ht hz' hy (by rw [hx,this]; rfl) hr hk
  ·rename_i j v hx
   split at hk
   ·rename_i es xs own frz ver hl
    obtain ⟨hb,hk⟩:=cond_inv hk
    obtain ⟨hr,hk⟩:=ite_inv hk
    simp only [Bool.and_eq_true] at hb
    refine op_indexRow (C:=C) (gives:=gives) ho hR ht hz' hy hl (Nat.eq_of_beq_eq_true hb.1) (Nat.eq_of_beq_eq_true hb.2) 0 xs.length (.inl ⟨hx,rfl,rfl⟩) hr ?_
    rw [Nat.zero_add]; exact hk
   ·rename_i xs hl
    obtain ⟨hb,hk⟩:=cond_inv hk
    obtain ⟨hr,hk⟩:=ite_inv hk
    simp only [Bool.and_eq_true] at hb
    have hv:=Nat.eq_of_beq_eq_true hb.2
    subst hv
    exact op_indexRefs ho hR ht (Nat.eq_of_beq_eq_true hb.1).symm hy hl hx hr hk
   ·exact hk.elim
  ·rename_i j off m v hx
   split at hk
   ·rename_i es xs own frz ver hl
    obtain ⟨hb,hk⟩:=cond_inv hk
    obtain ⟨hr,hk⟩:=ite_inv hk
    simp only [Bool.and_eq_true] at hb
    exact op_indexRow ho hR ht hz' hy hl (Nat.eq_of_beq_eq_true hb.1) (Nat.eq_of_beq_eq_true hb.2) off m (.inr hx) hr hk
   ·exact hk.elim
  ·exact hk.elim
theorem ok_extract {x:Operand} {i:Nat} (ho:o.op = .extract x i) (hR:RelF B n F ρ s a w) (hk:extractC (envP P n gives C) o (s.ev x) i s K):PurOk C P n gives F ρ s o a w K:=by
 unfold extractC at hk
 split at hk
 ·rename_i hx
  split at hk
  ·rename_i hi; exact op_extract ho hR hx hi hk
  ·exact hk.elim
 ·exact hk.elim
theorem ok_range {t:TypeId} {x:Operand} (ho:o.op = .range t x) (hR:RelF B n F ρ s a w) (hT:TD T o) (hk:rangeC (envP P n gives C) o t (s.ev x) s K):OpOk P B n F ρ s T o a w K:=by
 unfold rangeC at hk
 split at hk
 ·rename_i hx
  obtain ⟨hb,hk⟩:=cond_inv hk
  exact op_range ho hR hx hb hT hk
 ·exact hk.elim
theorem ok_typeAssert {x:Operand} {xt at':TypeId} {ok:Bool} (ho:o.op = .typeAssert x xt at' ok) (hR:RelF B n F ρ s a w) (hk:typeAssertC (envP P n gives C) o (s.ev x) xt at' ok s K):PurOk C P n gives F ρ s o a w K:=by
 unfold typeAssertC at hk
 split at hk
 ·rename_i hx
  split at hk
  ·rename_i hr; exact op_typeAssert ho hR hx hr hk
  ·exact hk.elim
 ·exact hk.elim
theorem ok_alloc {t:TypeId} (ho:o.op = .alloc t) (hR:RelF B n F ρ s a w) (hT:TD T o) (hk:allocC (envP P n gives C) o t s K):OpOk P B n F ρ s T o a w K:=by
 unfold allocC at hk
 split at hk
 case h_2=>exact hk.elim
 rename_i z hz
 cases hb:arrB (envP P n gives C).P t && flat z && okCells z.cells
 ·rw [hb] at hk
  obtain ⟨hb,hk⟩:=cond_inv hk
  exact op_alloc ho hR hz hb hT hk
 ·rw [hb] at hk
  simp only [Bool.and_eq_true] at hb
  exact op_allocArr ho hR hz hb.1.2 hb.2 hT hk
theorem mapEvC {x:Operand} (hR:RelF B n F ρ s a w) {r:Value} (hx:s.ev x = .c r):a.eval x=r:=by
 have:=hR.ev x
 rw [hx] at this
 exact this.c_inv
theorem pureC_int {op:BinOp} {k:IntKind} {i j:Int} {Kv:V→Prop} (h:pureC (envP P n gives C) (intOp op k i j) Kv):∃ r,intOp op k i j=some r∧okC r=true∧Kv (.c r):=by
 unfold intOp at h ⊢
 split at h <;> first | exact h.elim | exact ⟨_,rfl,rfl,h⟩
theorem pureC_str {op:BinOp} {i j:ByteArray} {Kv:V→Prop} (h:pureC (envP P n gives C) (strOp op i j) Kv):∃ r,strOp op i j=some r∧okC r=true∧Kv (.c r):=by
 unfold strOp at h ⊢
 split at h <;> first | exact h.elim | exact ⟨_,rfl,rfl,h⟩
theorem pureC_bool {op:BinOp} {i j:Bool} {Kv:V→Prop} (h:pureC (envP P n gives C) (boolOp op i j) Kv):∃ r,boolOp op i j=some r∧okC r=true∧Kv (.c r):=by
 unfold boolOp at h ⊢
 split at h <;> first | exact h.elim | exact ⟨_,rfl,rfl,h⟩
theorem ok_binI {op:BinOp} {t u:TypeId} {x y:Operand} {k k':IntKind} {i j:Int} (ho:o.op = .binOp op t x y u) (hR:RelF B n F ρ s a w) (hx:s.ev x = .c (.int k i)) (hy:s.ev y = .c (.int k' j))
  (hk:binI (envP P n gives C) op k i k' j fun v=>fin (envP P n gives C) o s v K):PurOk C P n gives F ρ s o a w K:=by
 have ex:=mapEvC hR hx
 have ey:=mapEvC hR hy
 unfold binI at hk
 split at hk
 ·have hk2:=ite_inv hk
  clear hk
  obtain ⟨hkk,hk⟩:=hk2
  subst hkk
  split at hk
  ·exact hk.elim
  ·rename_i hj; exact op_bin ho hR ex ey (fun _=>run_quo hj) rfl hk
 ·have hk2:=ite_inv hk
  clear hk
  obtain ⟨hkk,hk⟩:=hk2
  subst hkk
  split at hk
  ·exact hk.elim
  ·rename_i hj; exact op_bin ho hR ex ey (fun _=>run_rem hj) rfl hk
 ·split at hk
  ·exact hk.elim
  ·rename_i hj; exact op_bin ho hR ex ey (fun _=>run_shl hj) rfl hk
 ·split at hk
  ·exact hk.elim
  ·rename_i hj; exact op_bin ho hR ex ey (fun _=>run_shr hj) rfl hk
 ·have hk2:=ite_inv hk
  clear hk
  obtain ⟨hkk,hk⟩:=hk2
  subst hkk
  obtain ⟨r,h1,h2,h3⟩:=pureC_int hk
  exact op_bin ho hR ex ey (fun _=>run_intOp h1) h2 h3
theorem isIfc_some {t:TypeId} (h:isIfc P t=true):∃ ms,P.underlying t=some (.interface ms):=by
 unfold isIfc at h
 split at h
 ·rename_i ms hm; exact ⟨ms,hm⟩
 ·cases h
theorem ok_binN {op:BinOp} {t u:TypeId} {x y:Operand} (ho:o.op = .binOp op t x y u) (hR:RelF B n F ρ s a w)
  (hk:binN (envP P n gives C) op t (constOf y) (s.ev x) fun v=>fin (envP P n gives C) o s v K):PurOk C P n gives F ρ s o a w K:=by
 unfold binN at hk
 split at hk
 ·rename_i hy
  have hy:y = .const .nilIface:=by
   unfold constOf at hy
   split at hy
   ·cases hy; rfl
   ·cases hy
  subst hy
  split at hk
  ·rename_i b hb
   obtain ⟨hi,hk⟩:=cond_inv hk
   obtain ⟨ms,hms⟩:=isIfc_some (P:=P) hi
   obtain ⟨p,hp,hpb⟩:∃ p,s.ev x = .c p∧((p = .nilIface∧b=true)∨((∃ d u,p = .iface d u)∧b=false)):=by
    unfold isNil at hb
    split at hb
    ·rename_i hx; cases hb; exact ⟨_,hx,.inl ⟨rfl,rfl⟩⟩
    ·rename_i hx; cases hb; exact ⟨_,hx,.inr ⟨⟨_,_,rfl⟩,rfl⟩⟩
    ·cases hb
   have ex:=mapEvC hR hp
   split at hk
   ·exact op_bin ho hR ex rfl (fun _=>run_nilI hms b hpb b (.inl ⟨rfl,rfl⟩)) rfl hk
   ·exact op_bin ho hR ex rfl (fun _=>run_nilI hms b hpb (!b) (.inr ⟨rfl,rfl⟩)) rfl hk
   ·exact hk.elim
  ·exact hk.elim
 ·rename_i hy
  have hy:y = .const (.slice none 0 0):=by
   unfold constOf at hy
   split at hy
   ·cases hy; rfl
   ·cases hy
  subst hy
  split at hk
  ·rename_i e _ _ xs he hx
   split at hk
   ·exact op_nilS ho hR (isSlice_some he) hx hk
   ·exact hk.elim
  ·exact hk.elim
 ·exact hk.elim
end
end Go.Proofs.YtdjldmolhkkipaaGreatDoor.Eng
end
section
set_option linter.unusedVariables false
set_option linter.unusedSimpArgs false
namespace Go.Proofs.YtdjldmolhkkipaaGreatDoor.Eng
open Go Go.Lib
section
variable {P:Program} {gives:FuncId→Bool} {C:CL}
variable {B:Base} {n:Nat} {F:Fz} {ρ:Rho} {s:S} {a:Act} {w:World} {o:Oper} {K:S→Prop} {T:Nat→Prop}
theorem part_ok {t:TypeId} {cs:List V} {vs:Array Value} {off:Nat} {Kv:V→Prop} (hv:VR (clOf w) F ρ (.agg cs) (.agg vs))
  (h:asType P t (fun j=>cs[j]?) asCellM off False Kv):∃ v c,(∀ w,(part t vs off).run P w = .ok c w)∧VR (clOf w) F ρ v c∧Kv v:=by
 cases hv with
 | agg hn hk hc =>
 unfold asType at h
 cases hb:aggB P t
 ·rw [hb] at h
  simp only [cond_false] at h
  split at h
  ·rename_i kd hkd
   obtain ⟨d,hd⟩:=kinds_under hkd
   obtain ⟨u,v,e,hv,hk'⟩:=givesM (cl:=clOf w) (F:=F) (ρ:=ρ) _ _ _ h
   have hlt:off < vs.size:=by
    have:=(List.getElem?_eq_some_iff.1 e).1
    omega
   refine ⟨v,vs[off],fun w=>?_,hv _ (hc off u vs[off] e (Array.getElem?_eq_getElem hlt)),hk'⟩
   simp [part,isAgg_run hd,hb,hlt]
  ·exact h.elim
 ·rw [hb] at h
  simp only [cond_true] at h
  cases hl:Nat.beq (kinds P 9 t).length (szOf P t)
  ·rw [hl] at h; exact h.elim
  ·rw [hl] at h
   simp only [cond_true] at h
   obtain ⟨us,ws,l1,l2,hus,hvs,hk'⟩:=asCells_inv (givesM (cl:=clOf w) (F:=F) (ρ:=ρ)) _ _ _ h
   have hl':=Nat.eq_of_beq_eq_true hl
   have hu:∃ d,P.underlying t=some d:=by
    unfold aggB at hb
    split at hb <;> first | exact ⟨_,by assumption⟩ | cases hb
   obtain ⟨d,hd⟩:=hu
   have hin:off+szOf P t≤vs.size∨szOf P t=0:=by
    by_cases h0:szOf P t=0
    ·exact .inr h0
    ·left
     have hju:szOf P t - 1 < us.length:=by omega
     have:=(List.getElem?_eq_some_iff.1 (hus _ _ (List.getElem?_eq_getElem hju))).1
     omega
   have hget:∀ i c,(vs.extract off (off+szOf P t))[i]? = some c→i < szOf P t∧vs[off+i]? = some c:=fun i c hi=>by
    rw [Array.getElem?_extract] at hi
    split at hi
    ·refine ⟨by omega,hi⟩
    ·cases hi
   refine ⟨.agg ws,.agg (vs.extract off (off+szOf P t)),fun w=>by simp [part,isAgg_run hd,hb,sizeOf_run hd],.agg ?_ (fun i c hi=>hk _ _ (hget i c hi).2) (fun i v c hv hi=>?_),hk'⟩
   ·rw [l2,hl',Array.size_extract]
    rcases hin with h1 | h1 <;> omega
   ·obtain ⟨h1,h2⟩:=hget i c hi
    have hju:i < us.length:=by omega
    exact hvs i us[i] v (List.getElem?_eq_getElem hju) hv c (hc _ _ _ (hus i _ (List.getElem?_eq_getElem hju)) h2)
theorem ok_field {t:TypeId} {x:Operand} {i:Nat} (ho:o.op = .field t x i) (hR:RelF B n F ρ s a w) (hk:fieldC (envP P n gives C) o t (s.ev x) i s K):PurOk C P n gives F ρ s o a w K:=by
 unfold fieldC at hk
 split at hk
 ·rename_i f cs hf hx
  obtain ⟨fs,hfs,hi⟩:=fieldOf_some (P:=P) hf
  have he:=hR.ev x
  rw [hx] at he
  generalize hc:a.eval x=c at he
  cases he with
  | agg hn hk' h =>
   rename_i vs
   obtain ⟨v,c,h1,h2,h3⟩:=part_ok (.agg hn hk' h) hk
   have h1':∀ w,(part f.type vs f.offset).run P w = .ok c w:=h1
   refine okPur h3 (fun w=>?_) hR h2
   simp [execOp,ho,Instr.field,run_underlying hfs,hi,hc,Go.asAgg,h1']
 ·exact hk.elim
theorem VR.ag_agg {cl:Cl} {cs:List V} {vs:Array Value} (h:VR cl F ρ (.ag cs) (.agg vs)):VR cl F ρ (.agg cs) (.agg vs):=by
 cases h with
 | ag hn h =>
  refine .agg hn (fun i v hv=>?_) (fun i v c hv hc=>?_)
  ·have hi:i < cs.length:=by rw [hn]; exact (Array.getElem?_eq_some_iff.1 hv).1
   exact (h i cs[i] v (List.getElem?_eq_getElem hi) hv).2
  ·obtain ⟨rfl,h2⟩:=h i v c hv hc
   exact .c h2
theorem ok_index {t:TypeId} {x y:Operand} (ho:o.op = .index t x y) (hR:RelF B n F ρ s a w) (hk:indexC (envP P n gives C) o t (s.ev x) (s.ev y) s K):PurOk C P n gives F ρ s o a w K:=by
 unfold indexC at hk
 split at hk
 case h_2=>exact hk.elim
 rename_i i hi
 obtain ⟨k,hy⟩:=ints_some hi
 split at hk
 ·rename_i v hx
  obtain ⟨hb,hk⟩:=cond_inv hk
  obtain ⟨hr,hk⟩:=ite_inv hk
  exact op_indexStr ho hR hb hy hx hr hk
 ·rename_i cs hx
  split at hk
  case h_2=>exact hk.elim
  rename_i m e ht
  obtain ⟨hr,hk⟩:=ite_inv hk
  have he:=hR.ev x
  rw [hx] at he
  generalize hc:a.eval x=c at he
  cases he with
  | ag hn h =>
   rename_i vs
   obtain ⟨v,c,h1,h2,h3⟩:=part_ok (F:=F) (ρ:=ρ) (VR.ag_agg (.ag hn h)) hk
   have hd:∃ d,P.underlying e=some d:=by
    by_cases hb:aggB P e=true
    ·unfold aggB at hb
     split at hb <;> first | exact ⟨_,by assumption⟩ | cases hb
    ·unfold asType at hk
     have hb':aggB P e=false:=by simpa using hb
     have hk:(bif aggB P e then _ else _):=hk
     rw [hb'] at hk
     simp only [cond_false] at hk
     split at hk
     ·rename_i kd hkd; exact kinds_under hkd
     ·exact hk.elim
   obtain ⟨d,hd⟩:=hd
   have hsz:=sizeOf_run (P:=P) hd
   refine okPur h3 (fun w=>?_) hR h2
   have hyv:a.eval y = .int k i:=mapEvC hR hy
   have h1':∀ w,(part e vs (i.toNat * szOf P e)).run P w = .ok c w:=h1
   simp [execOp,ho,Instr.index,run_underlying (isArr_some (P:=P) ht),hc,hyv,asIntOf,hr,hsz,h1']
 ·rename_i cs hx
  split at hk
  case h_2=>exact hk.elim
  rename_i m e ht
  obtain ⟨hr,hk⟩:=ite_inv hk
  have he:=hR.ev x
  rw [hx] at he
  generalize hc:a.eval x=c at he
  cases he with
  | agg hn hk' h =>
   rename_i vs
   obtain ⟨v,c,h1,h2,h3⟩:=part_ok (.agg hn hk' h) hk
   have hd:∃ d,P.underlying e=some d:=by
    by_cases hb:aggB P e=true
    ·unfold aggB at hb
     split at hb <;> first | exact ⟨_,by assumption⟩ | cases hb
    ·unfold asType at hk
     have hb':aggB P e=false:=by simpa using hb
     have hk:(bif aggB P e then _ else _):=hk
     rw [hb'] at hk
     simp only [cond_false] at hk
     split at hk
     ·rename_i kd hkd; exact kinds_under hkd
     ·exact hk.elim
   obtain ⟨d,hd⟩:=hd
   have hsz:=sizeOf_run (P:=P) hd
   refine okPur h3 (fun w=>?_) hR h2
   have hyv:a.eval y = .int k i:=mapEvC hR hy
   have h1':∀ w,(part e vs (i.toNat * szOf P e)).run P w = .ok c w:=h1
   simp [execOp,ho,Instr.index,run_underlying (isArr_some (P:=P) ht),hc,hyv,asIntOf,hr,hsz,h1']
 ·exact hk.elim
theorem ok_next {x:Operand} (ho:o.op = .next x true) (hR:RelF B n F ρ s a w) (hTk:∀ k,s.ev x = .it k→T k) (hk:nextC (envP P n gives C) o (s.ev x) s K):OpOk P B n F ρ s T o a w K:=by
 unfold nextC at hk
 split at hk
 case h_2=>exact hk.elim
 rename_i k hx
 split at hk
 case h_2=>exact hk.elim
 rename_i v p hl
 have he:=hR.ev x
 rw [hx] at he
 generalize hc:a.eval x=c at he
 cases he
 have hsr:w.heap[(ρ k).blk]? = some (.stringIter v p):=hR.hr.sr k _ hl
 have hlt:(ρ k).blk < w.heap.size:=(Array.getElem?_eq_some_iff.1 hsr).1
 split at hk
 ·rename_i hp
  have hh:∀ g,g≠(ρ k).blk→(w.heap.setIfInBounds (ρ k).blk (.stringIter v (p+(Utf8.decode v p).2)))[g]? = w.heap[g]?:=fun g hg=>by simp [Ne.symm hg]
  have hh':(w.heap.setIfInBounds (ρ k).blk (.stringIter v (p+(Utf8.decode v p).2)))[(ρ k).blk]? = some (.stringIter v (p+(Utf8.decode v p).2)):=by simp [hlt]
  refine okTurn (F':=F) (ρ':=upd ρ k (ρ k)) (c:=.tuple #[.bool true,goInt p,.int .i32 (Utf8.decode v p).1]) (w':={ w with heap:=w.heap.setIfInBounds (ρ k).blk (.stringIter v (p+(Utf8.decode v p).2)) }) hk ?_
   (hR.turn hl _ (ρ k) F _ w.heap.size (agree.refl _) (by simp) (fun g q hno=>?_) ⟨⟨rfl,rfl,rfl⟩,fun g q=>?_⟩ (fun g hno=>hh g fun e=>hno 0 (show g=(ρ k).blk from e)) hR.fr.size
    (fun q hf=>Nat.lt_irrefl _ (hR.hr.fin _ _ hf)) (fun j y' q hy' ho'=>Nat.lt_irrefl _ (hR.hr.free j y' _ q hy' ho').2.2) (fun _ _ h=>h) (fun _ _ h=>.inl h) ?_ (fun q p' hw=>?_)) (.turn (hTk k hx) hl (fun _ _ h=>h) (by simp) fun g q _ hno=>?_) ?_
  ·simp [execOp,ho,hc,Instr.next,getObj,setObj,Sem.run,hsr,hp]
  ·have hg:g≠(ρ k).blk:=hno
   simp only [clOf,World.cell?,hh g hg]
  ·by_cases hg:g=(ρ k).blk
   ·subst hg
    simp only [World.frozen?,hh',hsr]
   ·simp only [World.frozen?,hh g hg]
  ·rw [upd_self]; exact hh'
  ·rw [upd_self] at hw
   have hw':owns ρ k (.iter v p) q p':=hw
   exact ⟨fun hf=>(hR.hr.free k _ _ _ hl hw').1 hf,.inl hw'⟩
  ·have hg:g≠(ρ k).blk:=hno
   simp only [clOf,World.cell?,hh g hg]
  ·refine .tup rfl fun i u d hu hd=>?_
   match i,hu,hd with
   | 0,hu,hd=>simp at hu hd; subst hu; subst hd; exact .c rfl
   | 1,hu,hd=>simp at hu hd; subst hu; subst hd; exact .c rfl
   | 2,hu,hd=>simp at hu hd; subst hu; subst hd; exact .c rfl
   | i+3,hu,hd=>simp at hu
 ·rename_i hp
  refine okVal (c:=.tuple #[.bool false]) hk ?_ hR (.tup rfl fun i u d hu hd=>?_)
  ·simp [execOp,ho,hc,Instr.next,getObj,Sem.run,hsr,hp]
  ·match i,hu,hd with
   | 0,hu,hd=>simp at hu hd; subst hu; subst hd; exact .c rfl
   | i+1,hu,hd=>simp at hu
theorem foldl_set (off:Nat):∀ (l:List Value) (j0:Nat) (cs:Array Value),((l.zipIdx j0).foldl (fun cs (x:Value×Nat)=>cs.setIfInBounds (off+x.2) x.1) cs).size=cs.size ∧
  ∀ i,((l.zipIdx j0).foldl (fun cs (x:Value×Nat)=>cs.setIfInBounds (off+x.2) x.1) cs)[i]? = if off+j0≤i∧i < off+j0+l.length∧i < cs.size then l[i - (off+j0)]? else cs[i]?
 | [],j0,cs=>⟨rfl,fun i=>by rw [if_neg (by simp; omega)]; rfl⟩
 | v :: r,j0,cs=>by
  obtain ⟨h1,h2⟩:=foldl_set off r (j0+1) (cs.setIfInBounds (off+j0) v)
  simp only [List.zipIdx_cons,List.foldl_cons]
  refine ⟨by rw [h1]; simp,fun i=>?_⟩
  rw [h2 i,Array.size_setIfInBounds]
  by_cases h:off+(j0+1)≤i∧i < off+(j0+1)+r.length∧i < cs.size
  ·rw [if_pos h,if_pos (by simp; omega),show i - (off+j0)=i - (off+(j0+1))+1 by omega]; rfl
  ·rw [if_neg h,Array.getElem?_setIfInBounds]
   by_cases hi:off+j0=i
   ·subst hi
    by_cases hs:off+j0 < cs.size
    ·rw [if_pos rfl,if_pos hs,if_pos (by simp; omega),Nat.sub_self]; rfl
    ·rw [if_pos rfl,if_neg hs,if_neg (by simp; omega),Array.getElem?_eq_none (by omega)]
   ·rw [if_neg hi,if_neg (by simp at h ⊢; omega)]
def CR (w:World) (F:Fz) (ρ:Rho) (cs:List V) (cv:Array Value):Prop :=
 cs.length=cv.size∧∀ (i:Nat) (d:Value),cv[i]? = some d→okC d=true∧∀ u,cs[i]? = some u→VR (clOf w) F ρ u d
theorem fill_rel {place:Nat→Option (Nat×Nat)}:∀ (ps:List (Nat×V)) (qs:List (Nat×Value)) (cs:List V) (cv:Array Value) (out:List V),ps.length=qs.length →
  (∀ (i:Nat) (p:Nat×V) (q:Nat×Value),ps[i]? = some p→qs[i]? = some q→p.1=q.1∧VR (clOf w) F ρ p.2 q.2)→CR w F ρ cs cv→fillV place cv.size cs ps=some out →
  ∃ r,Instr.fill place cv qs=some r∧CR w F ρ out r
 | [],[],cs,cv,out,_,_,hc,h=>by cases h; exact ⟨cv,rfl,hc⟩
 |(i,v) :: ps,(j,d) :: qs,cs,cv,out,hl,hv,hc,h=>by
  obtain ⟨e,hvd⟩:=hv 0 _ _ rfl rfl
  simp only at e hvd
  subst e
  rw [fillV] at h
  split at h
  case h_2=>cases h
  rename_i off sz hp
  cases hb:Nat.beq v.cells.length sz && okCells v.cells && Nat.ble (off+sz) cv.size
  ·rw [hb] at h; cases h
  rw [hb] at h
  simp only [cond_true] at h
  simp only [Bool.and_eq_true] at hb
  obtain ⟨⟨b1,b2⟩,b3⟩:=hb
  have b1:=Nat.eq_of_beq_eq_true b1
  have b3:=Nat.le_of_ble_eq_true b3
  obtain ⟨d1,d2⟩:=cells_rel b2 hvd
  obtain ⟨f1,f2⟩:=foldl_set off d.cells.toList 0 cv
  have hfold:d.cells.zipIdx.foldl (fun cs (x:Value×Nat)=>cs.setIfInBounds (off+x.2) x.1) cv=(d.cells.toList.zipIdx 0).foldl (fun cs (x:Value×Nat)=>cs.setIfInBounds (off+x.2) x.1) cv:=by
   rw [← Array.foldl_toList,Array.toList_zipIdx]
  have hcr:CR w F ρ (setL cs off v.cells) (d.cells.zipIdx.foldl (fun cs (x:Value×Nat)=>cs.setIfInBounds (off+x.2) x.1) cv):=by
   rw [hfold]
   refine ⟨by rw [setL_length,f1]; exact hc.1,fun i' d' hd'=>?_⟩
   rw [f2 i'] at hd'
   simp only [Nat.add_zero,Array.length_toList] at hd'
   have hle:off+v.cells.length≤cs.length:=by rw [hc.1]; omega
   by_cases hi:off≤i'∧i' < off+d.cells.size∧i' < cv.size
   ·rw [if_pos hi,Array.getElem?_toList] at hd'
    obtain ⟨e1,e2⟩:=d2 _ _ hd'
    refine ⟨e1,fun u hu=>e2 u ?_⟩
    rw [setL_get _ _ _ _ hle,if_pos (by omega)] at hu; exact hu
   ·rw [if_neg hi] at hd'
    obtain ⟨e1,e2⟩:=hc.2 i' d' hd'
    refine ⟨e1,fun u hu=>e2 u ?_⟩
    rw [setL_get _ _ _ _ hle,if_neg (by omega)] at hu; exact hu
  have hsz:(d.cells.zipIdx.foldl (fun cs (x:Value×Nat)=>cs.setIfInBounds (off+x.2) x.1) cv).size=cv.size:=by rw [hfold,f1]
  obtain ⟨r,r1,r2⟩:=fill_rel ps qs _ _ out (by simpa using hl) (fun i' p q hp hq=>hv (i'+1) p q (by simpa using hp) (by simpa using hq)) hcr (by rw [hsz]; exact h)
  refine ⟨r,?_,r2⟩
  rw [Instr.fill]
  simp only [hp]
  rw [if_neg (by simp; omega)]
  exact r1
end
end Go.Proofs.YtdjldmolhkkipaaGreatDoor.Eng
end
section
set_option linter.unusedVariables false
set_option linter.unusedSimpArgs false
namespace Go.Proofs.YtdjldmolhkkipaaGreatDoor.Eng
open Go Go.Lib
section
variable {P:Program} {gives:FuncId→Bool} {C:CL}
variable {B:Base} {n:Nat} {F:Fz} {ρ:Rho} {s:S} {a:Act} {w:World} {o:Oper} {K:S→Prop} {T:Nat→Prop}
theorem partsEv (hR:RelF B n F ρ s a w) (ps:Array (Nat×Operand)):(partsOf s ps).length=((ps.map fun (i,x)=>(i,a.eval x)).toList).length ∧
  ∀ (i:Nat) (p:Nat×V) (q:Nat×Value),(partsOf s ps)[i]? = some p→((ps.map fun (i,x)=>(i,a.eval x)).toList)[i]? = some q→p.1=q.1∧VR (clOf w) F ρ p.2 q.2:=by
 refine ⟨by simp [partsOf],fun i p q hp hq=>?_⟩
 unfold partsOf at hp
 rw [Array.toList_map] at hq
 rw [List.getElem?_map] at hp hq
 cases hx:ps.toList[i]? with
 | none=>rw [hx] at hp; cases hp
 | some x=>rw [hx] at hp hq; cases hp; cases hq; exact ⟨rfl,hR.ev x.2⟩
theorem zero_agg {t:TypeId} {z:List V} (h:zeroV P t=some (.agg z)):∃ i cv,P.info? t=some i∧i.zero=some (.agg cv)∧CR w F ρ z cv:=by
 obtain ⟨i,zv,i1,i2,i3,_⟩:=zeroV_run h
 have hv:VR (clOf w) F ρ (ofVal zv) zv:=.ofVal zv
 rw [i3] at hv
 cases hv with
 | @agg _ vs hn hk hc =>
  exact ⟨i,vs,i1,i2,hn,fun j d hd=>⟨hk j d hd,fun u hu=>hc j u d hu hd⟩⟩
theorem places_some:∀ (fs:List Field),fs.all (fun f=>(P.info? f.type).isSome)=true →
  fs.mapM (fun f=>(P.info? f.type).map fun i=>(f.offset,i.size))=some (fs.map fun f=>(f.offset,szOf P f.type))
 | [],_=>rfl
 | f :: r,h=>by
  simp only [List.all_cons,Bool.and_eq_true] at h
  obtain ⟨i,hi⟩:=Option.isSome_iff_exists.1 h.1
  have:szOf P f.type=i.size:=by simp [szOf,hi]
  simp [List.mapM_cons,hi,places_some r h.2,this]
theorem CR.agg {cs:List V} {cv:Array Value} (h:CR w F ρ cs cv):VR (clOf w) F ρ (.agg cs) (.agg cv) :=
 .agg h.1 (fun i d hd=>(h.2 i d hd).1) (fun i u d hu hd=>(h.2 i d hd).2 u hu)
theorem ok_build {t:TypeId} {ps:Array (Nat×Operand)} (ho:o.op = .build t ps) (hR:RelF B n F ρ s a w) (hk:buildC (envP P n gives C) o t ps s K):OpOk P B n F ρ s T o a w K:=by
 unfold buildC at hk
 split at hk
 case h_2=>exact hk.elim
 rename_i z hz
 obtain ⟨it,cv,i1,i2,i3⟩:=zero_agg (P:=P) (w:=w) (F:=F) (ρ:=ρ) hz
 obtain ⟨p1,p2⟩:=partsEv hR ps
 have fin':∀ (place:Nat→Option (Nat×Nat)) (cs:List V),fillV place z.length z (partsOf s ps)=some cs→fin (envP P n gives C) o s (.agg cs) K →
   (∀ r,Instr.fill place cv ((ps.map fun (i,x)=>(i,a.eval x)).toList)=some r→P.built t ((ps.map fun (i,x)=>(i,a.eval x)).toList)=some r)→OpOk P B n F ρ s T o a w K:=by
  intro place cs hf hk hb
  rw [i3.1] at hf
  obtain ⟨r,r1,r2⟩:=fill_rel _ _ _ _ _ p1 p2 i3 hf
  refine okVal hk ?_ hR r2.agg
  have:=run_build w t _ r (hb r r1)
  simp only [execOp,ho,Sem.run_bind,this,Result.andThen_ok,Sem.run_pure]
 split at hk
 ·rename_i fs hfs
  obtain ⟨hb,hk⟩:=cond_inv hk
  simp only [Bool.and_eq_true] at hb
  split at hk
  case h_2=>exact hk.elim
  rename_i cs hf
  refine fin' _ cs hf hk fun r hr=>?_
  have hfs:P.underlying t=some (.struct fs):=hfs
  have hpl:=places_some (P:=P) fs.toList hb.1
  have hr':Instr.fill (fun x=>(fs.toList.map fun f=>(f.offset,szOf P f.type)).toArray[x]?) cv ((ps.map fun (i,x)=>(i,a.eval x)).toList)=some r:=by
   rw [← hr]
   congr 1
   funext i
   simp only [List.getElem?_toArray,List.getElem?_map,Array.getElem?_toList]
   cases fs[i]? <;> rfl
  simp only [Program.built,i1,hfs,i2,hpl,Value.cells]
  exact hr'
 ·rename_i m e hfs
  obtain ⟨hb,hk⟩:=cond_inv hk
  simp only [Bool.and_eq_true] at hb
  split at hk
  case h_2=>exact hk.elim
  rename_i cs hf
  refine fin' _ cs hf hk fun r hr=>?_
  have hfs:P.underlying t=some (.array m e):=hfs
  have hie:∃ ie,P.info? e=some ie∧szOf P e=ie.size:=by
   have h:=Nat.le_of_ble_eq_true hb.1
   have h:1≤szOf P e:=h
   cases hi:P.info? e with
   | none=>simp [szOf,hi] at h
   | some ie=>exact ⟨ie,rfl,by simp [szOf,hi]⟩
  obtain ⟨ie,hie,hse⟩:=hie
  simp only [Program.built,i1,hfs,i2,hie,Value.cells]
  rw [← hr,← hse]
  rfl
 ·exact hk.elim
def handRho (ρ:Rho) (ks:List Nat):Rho:=fun i=>{ ρ (ks.getD i 0) with ver:=0 }
theorem idx_get:∀ {ks:List Nat} {k i:Nat},idx ks k=some i→ks[i]? = some k
 | [],k,i,h=>by simp [idx] at h
 | j :: r,k,i,h=>by
  rw [idx] at h
  cases hb:Nat.beq j k
  ·rw [hb] at h
   simp only [cond_false] at h
   cases hr:idx r k with
   | none=>rw [hr] at h; cases h
   | some m=>rw [hr] at h; cases h; have:=idx_get hr; simpa using this
  ·rw [hb] at h
   cases h
   have:=Nat.eq_of_beq_eq_true hb
   subst this; rfl
theorem handRho_idx {ks:List Nat} {k i:Nat} (h:idx ks k=some i):handRho ρ ks i={ ρ k with ver:=0 }:=by
 simp [handRho,List.getD,idx_get h]
theorem content_eq {hp hp1:List (Nat×Slot)} {fs:List Nat} (heq:∀ k,look k hp1=(look k hp).map (froz fs k)) (v:V):content ⟨[],hp1⟩ v=content ⟨[],hp⟩ v:=by
 unfold content
 split
 ·rfl
 ·rename_i k v
  simp only [heq k]
  cases look k hp with
  | none=>rfl
  | some x=>cases x <;> rfl
 ·rename_i k off len v
  simp only [heq k]
  cases look k hp with
  | none=>rfl
  | some x=>cases x <;> rfl
 ·rfl
theorem esOf_eq {hp hp1:List (Nat×Slot)} {fs:List Nat} (heq:∀ k,look k hp1=(look k hp).map (froz fs k)) (k:Nat):esOf hp1 k=esOf hp k:=by
 unfold esOf
 simp only [heq k]
 cases look k hp with
 | none=>rfl
 | some x=>cases x <;> rfl
theorem frzV_of {hp hp1:List (Nat×Slot)} {fs:List Nat} (heq:∀ k,look k hp1=(look k hp).map (froz fs k)) {k:Nat} (hk:k∈fs) {v:V} {xs:List V} (hv:(∃ u,v = .sla k u)∨∃ p q u,v = .slm k p q u)
  (hc:content ⟨[],hp⟩ v=some xs):frzV hp1 v=true:=by
 have hany:fs.any (Nat.beq k)=true:=List.any_eq_true.2 ⟨k,hk,Nat.beq_refl k⟩
 rcases hv with ⟨u,rfl⟩ | ⟨p,q,u,rfl⟩
 ·simp only [content] at hc
  simp only [frzV,heq k]
  cases hl:look k hp with
  | none=>rw [hl] at hc; cases hc
  | some x =>
        cases x <;> rw [hl] at hc <;> first | cases hc | skip
        simp [froz,hany]
 ·simp only [content] at hc
  simp only [frzV,heq k]
  cases hl:look k hp with
  | none=>rw [hl] at hc; cases hc
  | some x =>
        cases x <;> rw [hl] at hc <;> first | cases hc | skip
        simp [froz,hany]
section
variable {hp hp1:List (Nat×Slot)} {fs ks:List Nat}
mutual
theorem handV_ok (hh:HR w F ρ hp1) (heq:∀ k,look k hp1=(look k hp).map (froz fs k)):∀ (v:V) {v':V} {c:Value},(∀ k∈skeys v,k∈fs)→handV hp ks v=some v'→VR (clOf w) F ρ v c→VR (clOf w) F (handRho ρ ks) v' c
 | .c v,v',c,_,h,hv=>by cases h; exact hv.flatρ rfl
 | .sl es fl xs,v',c,_,h,hv=>by cases h; exact hv.flatρ rfl
 | .sla k u,v',c,hf,h,hv=>by
  simp only [handV] at h
  cases hc:content ⟨[],hp⟩ (.sla k u) with
  | none=>rw [hc] at h; cases h
  | some xs =>
   rw [hc] at h; cases h
   have:=handV_sl hh hv (by rw [content_eq heq]; exact hc) (frzV_of heq (hf k (.head _)) (.inl ⟨_,rfl⟩) hc)
   rw [show esV hp1 (.sla k u)=esOf hp k from esOf_eq heq k] at this
   exact this.flatρ rfl
 | .slm k p q u,v',c,hf,h,hv=>by
  simp only [handV] at h
  cases hc:content ⟨[],hp⟩ (.slm k p q u) with
  | none=>rw [hc] at h; cases h
  | some xs =>
   rw [hc] at h; cases h
   have:=handV_sl hh hv (by rw [content_eq heq]; exact hc) (frzV_of heq (hf k (.head _)) (.inr ⟨_,_,_,rfl⟩) hc)
   rw [show esV hp1 (.slm k p q u)=esOf hp k from esOf_eq heq k] at this
   exact this.flatρ rfl
 | .ptr k p,v',c,_,h,hv=>by
  simp only [handV] at h
  cases hi:idx ks k with
  | none=>rw [hi] at h; cases h
  | some i =>
   rw [hi] at h; cases h
   cases hv
   have:=VR.ptr (cl:=clOf w) (F:=F) (ρ:=handRho ρ ks) (k:=i) (off:=p)
   rw [handRho_idx hi] at this
   exact this
 | .mp k,v',c,_,h,hv=>by
  simp only [handV] at h
  cases hi:idx ks k with
  | none=>rw [hi] at h; cases h
  | some i =>
   rw [hi] at h; cases h
   cases hv
   have:=VR.mp (cl:=clOf w) (F:=F) (ρ:=handRho ρ ks) (k:=i)
   rw [handRho_idx hi] at this
   exact this
 | .agg cs,v',c,hf,h,hv=>by
  simp only [handV] at h
  cases hc:handV.handC hp ks cs with
  | none=>rw [hc] at h; cases h
  | some ds =>
   rw [hc] at h; cases h
   obtain ⟨l1,l2⟩:=handC_ok hh heq cs (fun k hk=>hf k (by simpa [skeys] using hk)) hc
   cases hv with
   | agg hn hk h' =>
    refine .agg (l1.trans hn) hk fun i u d hu hd=>?_
    have hi:i < cs.length:=by rw [← l1]; exact (List.getElem?_eq_some_iff.1 hu).1
    exact l2 i cs[i] u d (List.getElem?_eq_getElem hi) hu (h' i _ d (List.getElem?_eq_getElem hi) hd)
 | .fn f x y,v',c,hf,h,hv=>by
  simp only [handV] at h
  cases hx:handV.handC hp ks x with
  | none=>rw [hx] at h; cases h
  | some x' =>
   cases hy:handV.handC hp ks y with
   | none=>rw [hx,hy] at h; cases h
   | some y' =>
    rw [hx,hy] at h; cases h
    obtain ⟨l1,l2⟩:=handC_ok hh heq x (fun k hk=>hf k (by simp only [skeys,List.mem_append]; exact .inl hk)) hx
    obtain ⟨m1,m2⟩:=handC_ok hh heq y (fun k hk=>hf k (by simp only [skeys,List.mem_append]; exact .inr hk)) hy
    cases hv with
    | fn hn hm h1 h2 =>
     refine .fn (l1.trans hn) (m1.trans hm) (fun i u d hu hd=>?_) (fun i u d hu hd=>?_)
     ·have hi:i < x.length:=by rw [← l1]; exact (List.getElem?_eq_some_iff.1 hu).1
      exact l2 i x[i] u d (List.getElem?_eq_getElem hi) hu (h1 i _ d (List.getElem?_eq_getElem hi) hd)
     ·have hi:i < y.length:=by rw [← m1]; exact (List.getElem?_eq_some_iff.1 hu).1
      exact m2 i y[i] u d (List.getElem?_eq_getElem hi) hu (h2 i _ d (List.getElem?_eq_getElem hi) hd)
 | .pe ..,v',c,_,h,_ | .ep ..,v',c,_,h,_ | .tup _,v',c,_,h,_ | .it _,v',c,_,h,_ | .bad,v',c,_,h,_=>by simp [handV] at h
theorem handC_ok (hh:HR w F ρ hp1) (heq:∀ k,look k hp1=(look k hp).map (froz fs k)):∀ (vs:List V) {vs':List V},(∀ k∈skeys.skeysC vs,k∈fs)→handV.handC hp ks vs=some vs' →
  vs'.length=vs.length∧∀ (i:Nat) (v v':V) (c:Value),vs[i]? = some v→vs'[i]? = some v'→VR (clOf w) F ρ v c→VR (clOf w) F (handRho ρ ks) v' c
 | [],vs',_,h=>by cases h; exact ⟨rfl,fun i v v' c hv=>by simp at hv⟩
 | v :: r,vs',hf,h=>by
  simp only [handV.handC] at h
  cases hx:handV hp ks v with
  | none=>rw [hx] at h; cases h
  | some x =>
   cases hy:handV.handC hp ks r with
   | none=>rw [hx,hy] at h; cases h
   | some y =>
    rw [hx,hy] at h; cases h
    have hv:=fun c=>handV_ok hh heq v (v':=x) (c:=c) (fun k hk=>hf k (by simp only [skeys.skeysC,List.mem_append]; exact .inl hk)) hx
    obtain ⟨l1,l2⟩:=handC_ok hh heq r (fun k hk=>hf k (by simp only [skeys.skeysC,List.mem_append]; exact .inr hk)) hy
    refine ⟨by simp [l1],fun i u u' c hu hu'=>?_⟩
    cases i with
    | zero=>simp at hu hu'; subst hu; subst hu'; exact hv c
    | succ i=>simp at hu hu'; exact l2 i u u' c hu hu'
end
end
theorem handV_noAgg {hp:List (Nat×Slot)} {ks:List Nat} {x y:V} (hx:∀ cs,x≠.agg cs) (h:handV hp ks x=some y):x.cells=[x]∧y.cells=[y]:=by
 cases x with
 | agg cs=>exact absurd rfl (hx cs)
 | _ =>
  simp only [handV] at h
  try (first | (cases h; exact ⟨rfl,rfl⟩) | skip)
  all_goals
   refine ⟨rfl,?_⟩
   first
    |(cases h; done)
    |(simp only [Option.map_eq_some_iff] at h; obtain ⟨_,_,h⟩:=h; subst h; rfl)
    |(split at h <;> first | (cases h; rfl) | cases h)
theorem handC_get {hp:List (Nat×Slot)} {ks:List Nat}:∀ {vs vs':List V},handV.handC hp ks vs=some vs'→vs'.length=vs.length∧∀ (i:Nat) (v':V),vs'[i]? = some v'→∃ v,vs[i]? = some v∧handV hp ks v=some v'
 | [],vs',h=>by cases h; exact ⟨rfl,fun i v' hv=>by simp at hv⟩
 | v :: r,vs',h=>by
  simp only [handV.handC] at h
  cases hx:handV hp ks v with
  | none=>rw [hx] at h; cases h
  | some x =>
   cases hy:handV.handC hp ks r with
   | none=>rw [hx,hy] at h; cases h
   | some y =>
    rw [hx,hy] at h; cases h
    obtain ⟨l1,l2⟩:=handC_get hy
    refine ⟨by simp [l1],fun i u hu=>?_⟩
    cases i with
    | zero=>simp at hu; subst hu; exact ⟨v,rfl,hx⟩
    | succ i=>simp at hu; simpa using l2 i u hu
theorem handV_cells {hp:List (Nat×Slot)} {ks:List Nat} {x y:V} (h:handV hp ks x=some y):y.cells.length=x.cells.length∧∀ (j:Nat) (u':V),y.cells[j]? = some u'→∃ u,x.cells[j]? = some u∧handV hp ks u=some u':=by
 by_cases hx:∃ cs,x = .agg cs
 ·obtain ⟨cs,rfl⟩:=hx
  simp only [handV] at h
  cases hc:handV.handC hp ks cs with
  | none=>rw [hc] at h; cases h
  | some ds=>rw [hc] at h; cases h; exact handC_get hc
 ·obtain ⟨h1,h2⟩:=handV_noAgg (fun cs e=>hx ⟨cs,e⟩) h
  rw [h1,h2]
  refine ⟨rfl,fun j u' hu=>?_⟩
  cases j with
  | zero=>simp at hu; subst hu; exact ⟨x,rfl,h⟩
  | succ j=>simp at hu
theorem owns_froz {fs:List Nat} {k:Nat} {x:Slot} {g p:Nat} (h:owns ρ k (froz fs k x) g p):owns ρ k x g p:=by
 cases x with
 | arr es xs own frz ver =>
  simp only [froz,owns] at h ⊢
  refine ⟨h.1,h.2.1,?_⟩
  rcases h.2.2 with h' | h'
  ·simp only [Bool.or_eq_false_iff] at h'; exact .inl ⟨h'.1.1,h'.2⟩
  ·exact .inr h'
 | _=>exact h
theorem RelF.froz1 {F1:Fz} {s1:S} {fs:List Nat} (hR1:RelF B n F1 ρ s1 a w) (heq:∀ k,look k s1.hp=(look k s.hp).map (froz fs k)) :
  ∀ k x1 g p,look k s1.hp=some x1→owns ρ k x1 g p→∃ x,look k s.hp=some x∧owns ρ k x g p:=fun k x1 g p hl ho=>by
 rw [heq k] at hl
 cases hx:look k s.hp with
 | none=>rw [hx] at hl; cases hl
 | some x=>rw [hx] at hl; cases hl; exact ⟨x,rfl,owns_froz ho⟩
theorem RelF.froz2 {F1:Fz} {s1:S} {fs:List Nat} (hR:RelF B n F ρ s a w) (hR1:RelF B n F1 ρ s1 a w) (heq:∀ k,look k s1.hp=(look k s.hp).map (froz fs k)) :
  ∀ k x g p,look k s.hp=some x→owns ρ k x g p→F1 g p∨∃ x1,look k s1.hp=some x1∧owns ρ k x1 g p:=fun k x g p hl ho=>by
 have h1:look k s1.hp=some (froz fs k x):=by rw [heq k,hl]; rfl
 cases x with
 | arr es xs own frz ver =>
  obtain ⟨o1,o2,o3⟩:=ho
  rcases o3 with ⟨o3,o4⟩ | o3
  ·cases hz:(frz || fs.any (Nat.beq k)) with
   | false=>exact .inr ⟨_,h1,o1,o2,.inl ⟨hz,o4⟩⟩
   | true =>
    left
    simp only [froz,hz] at h1
    obtain ⟨row,e1,e2,e3,e4⟩:=hR1.hr.row h1
    obtain ⟨d1,d2,d3⟩:=divmod_lt (j:=p - (ρ k).base) (m:=xs.length) (es:=es) (by omega)
    obtain ⟨c,_,_,_,c4⟩:=row.cell ((p - (ρ k).base) / es) _ ((p - (ρ k).base) % es) (List.getElem?_eq_getElem d1) d2
    have:=c4 rfl
    rw [show (ρ k).base+(p - (ρ k).base) / es * es+(p - (ρ k).base) % es=p by omega,← o1] at this
    exact this
  ·exact .inr ⟨_,h1,o1,o2,.inr o3⟩
 | _=>exact .inr ⟨_,h1,ho⟩
end
end Go.Proofs.YtdjldmolhkkipaaGreatDoor.Eng
end
section
set_option linter.unusedVariables false
set_option linter.unusedSimpArgs false
namespace Go.Proofs.YtdjldmolhkkipaaGreatDoor.Eng
open Go Go.Lib
section
variable {P:Program} {gives:FuncId→Bool} {C:CL}
variable {B:Base} {n:Nat} {F:Fz} {ρ:Rho} {s:S} {a:Act} {w:World} {o:Oper} {K:S→Prop} {T:Nat→Prop}
structure RR (w:World) (F:Fz) (ρ:Rho) (es:Nat) (xs:List V) (cv:Array Value):Prop where
 size:cv.size=xs.length * es
 wid:∀ (i:Nat) (x:V),xs[i]? = some x→x.cells.length=es
 cell:∀ (i:Nat) (x:V) (j:Nat),xs[i]? = some x→j < es→∃ c,cv[i * es+j]? = some c∧okC c=true∧∀ y,x.cells[j]? = some y→VR (clOf w) F ρ y c
theorem setAll_length:∀ (ps:List (Nat×V)) (xs:List V),(setAll xs ps).length=xs.length
 | [],xs=>rfl
 |(i,v) :: r,xs=>by rw [setAll,setAll_length r]; simp
theorem row_div {i i' j es:Nat} (hj:j < es) (h:i * es≤i' * es+j) (h':i' * es+j < i * es+es):i'=i:=by
 rw [← Nat.succ_mul] at h'
 have h1:i < i'+1:=by
  by_cases hc:i'+1≤i
  ·have:=Nat.mul_le_mul_right es hc
   rw [Nat.succ_mul] at this; omega
  ·omega
 have h2:i' < i+1:=by
  by_cases hc:i+1≤i'
  ·have:=Nat.mul_le_mul_right es hc
   have h3:(i+1) * es=i * es+es:=Nat.succ_mul i es
   rw [Nat.succ_mul] at h'; omega
  ·omega
 omega
theorem fill_rows {es m:Nat}:∀ (ps:List (Nat×V)) (qs:List (Nat×Value)) (xs:List V) (cv:Array Value),ps.length=qs.length →
  (∀ (i:Nat) (p:Nat×V) (q:Nat×Value),ps[i]? = some p→qs[i]? = some q→p.1=q.1∧VR (clOf w) F ρ p.2 q.2)→RR w F ρ es xs cv→partsFit es m ps=true→m=xs.length →
  ∃ r,Instr.fill (fun i=>some (i * es,es)) cv qs=some r∧RR w F ρ es (setAll xs ps) r
 | [],[],xs,cv,_,_,hc,_,_=>⟨cv,rfl,hc⟩
 |(i,v) :: ps,(j,d) :: qs,xs,cv,hl,hv,hc,h,hm=>by
  obtain ⟨e,hvd⟩:=hv 0 _ _ rfl rfl
  simp only at e hvd
  subst e
  simp only [partsFit,Bool.and_eq_true] at h
  obtain ⟨⟨⟨b0,b1⟩,b2⟩,b3⟩:=h
  have b0:=Nat.le_of_ble_eq_true b0
  have b1:=Nat.eq_of_beq_eq_true b1
  obtain ⟨d1,d2⟩:=cells_rel b2 hvd
  have hi:i < xs.length:=by omega
  have hfit:i * es+es≤cv.size:=by
   rw [hc.size,← Nat.succ_mul]; exact Nat.mul_le_mul_right _ hi
  obtain ⟨f1,f2⟩:=foldl_set (i * es) d.cells.toList 0 cv
  have hfold:d.cells.zipIdx.foldl (fun cs (x:Value×Nat)=>cs.setIfInBounds (i * es+x.2) x.1) cv=(d.cells.toList.zipIdx 0).foldl (fun cs (x:Value×Nat)=>cs.setIfInBounds (i * es+x.2) x.1) cv:=by
   rw [← Array.foldl_toList,Array.toList_zipIdx]
  have hrr:RR w F ρ es (xs.set i v) (d.cells.zipIdx.foldl (fun cs (x:Value×Nat)=>cs.setIfInBounds (i * es+x.2) x.1) cv):=by
   rw [hfold]
   refine ⟨by rw [f1,List.length_set]; exact hc.size,fun i' x hx=>?_,fun i' x j' hx hj=>?_⟩
   ·rw [List.getElem?_set] at hx
    split at hx
    ·cases hx; exact b1
    ·exact hc.wid i' x hx
   ·rw [f2]
    simp only [Nat.add_zero,Array.length_toList]
    rw [List.getElem?_set] at hx
    split at hx
    ·rename_i hii
     subst hii
     cases hx
     have hjd:j' < d.cells.size:=by omega
     rw [if_pos (by omega),show i * es+j' - i * es=j' by omega,Array.getElem?_toList]
     obtain ⟨e1,e2⟩:=d2 j' d.cells[j'] (Array.getElem?_eq_getElem hjd)
     exact ⟨d.cells[j'],Array.getElem?_eq_getElem hjd,e1,e2⟩
    ·rename_i hii
     rw [if_neg (fun hh=>hii (row_div hj hh.1 (by omega)).symm)]
     exact hc.cell i' x j' hx hj
  obtain ⟨r,r1,r2⟩:=fill_rows ps qs _ _ (by simpa using hl) (fun i' p q hp hq=>hv (i'+1) p q (by simpa using hp) (by simpa using hq)) hrr b3 (by rw [List.length_set]; exact hm)
  refine ⟨r,?_,r2⟩
  rw [Instr.fill]
  simp only
  rw [if_neg (by simp; omega)]
  exact r1
theorem zero_rows {z:V} {zv:Value} {es m:Nat} (h:VR (clOf w) F ρ z zv) (hok:okCells z.cells=true) (hz:z.cells.length=es) (he:0 < es) :
  zv.cells.size=es∧RR w F ρ es (List.replicate m z) ((Array.range (m * es)).map (zv.cells[· % zv.cells.size]!)):=by
 obtain ⟨c1,c2⟩:=cells_rel hok h
 have hs:zv.cells.size=es:=by omega
 refine ⟨hs,by simp,fun i x hx=>?_,fun i x j hx hj=>?_⟩
 ·obtain ⟨_,rfl⟩:=replicate_get hx; exact hz
 ·obtain ⟨hi,rfl⟩:=replicate_get hx
  have hjs:j < zv.cells.size:=by omega
  have hm:(i * es+j) % es=j:=by rw [Nat.mul_comm,Nat.mul_add_mod,Nat.mod_eq_of_lt hj]
  obtain ⟨e1,e2⟩:=c2 j zv.cells[j] (Array.getElem?_eq_getElem hjs)
  refine ⟨zv.cells[j],?_,e1,e2⟩
  rw [Array.getElem?_map,hs]
  have hlt:i * es+j < m * es:=idx_lt hi hj
  rw [Array.getElem?_eq_getElem (by simpa using hlt)]
  simp only [Array.getElem_range,Option.map_some,hm,Option.some.injEq]
  rw [getElem!_pos zv.cells j hjs]
theorem run_buildSlice' {t e:TypeId} {m es:Nat} {parts:Array (Nat×Value)} {cells:Array Value} {z:Value} {it:TypeInfo} (hu:P.underlying t=some (.slice e)) (hie:P.info? e=some it) (hz:it.zero=some z)
  (hs:szOf P e=es) (hzs:z.cells.size=es) (hsmall:m * es≤10000) (h0:0 < es)
  (h:Instr.fill (fun i=>some (i * es,es)) ((Array.range (m * es)).map (z.cells[· % z.cells.size]!)) parts.toList=some cells) :
  (Instr.buildSlice t m parts).run P w = .ok (.slice (some ⟨w.heap.size,0,none⟩) m m) (w.alloc (.cells cells e)):=by
 have hsi:it.size=es:=by rw [← hs]; simp [szOf,hie]
 by_cases hm:m * it.size=0
 ·have hm0:m=0:=by
   rcases Nat.mul_eq_zero.1 hm with h | h
   ·exact h
   ·omega
  subst hm0
  have h':Instr.fill (fun i=>some (i * it.size,it.size)) (#[]:Array Value) parts.toList=some cells:=by
   rw [hsi]
   rw [Nat.zero_mul,show Array.range 0 = #[] from by simp,Array.map_empty] at h
   exact h
  have e0:Array.range 0 = #[]:=by simp
  simp [Instr.buildSlice,run_underlying hu,sizeOf,typeInfo,hie,e0,h',newRow]
 ·exact run_buildSlice w t e m parts cells it z hu hie hz (by rw [hsi]; omega) hm (by rw [hsi]; exact h)
theorem uniq_mem:∀ (l acc:List Nat) (k:Nat),k∈uniq l acc↔k∈l∨k∈acc
 | [],acc,k=>by simp [uniq]
 | j :: r,acc,k=>by
  rw [uniq]
  cases hb:acc.any (Nat.beq j)
  ·simp only [cond_false]
   rw [uniq_mem r]
   simp only [List.mem_cons]
   constructor
   ·rintro (h | h | h)
    ·exact .inl (.inr h)
    ·exact .inl (.inl h)
    ·exact .inr h
   ·rintro ((h | h) | h)
    ·exact .inr (.inl h)
    ·exact .inl h
    ·exact .inr (.inr h)
  ·simp only [cond_true]
   rw [uniq_mem r]
   simp only [List.mem_cons]
   obtain ⟨j',h1,h2⟩:=List.any_eq_true.1 hb
   have:=Nat.eq_of_beq_eq_true h2
   subst this
   constructor
   ·rintro (h | h)
    ·exact .inl (.inr h)
    ·exact .inr h
   ·rintro ((h | h) | h)
    ·subst h; exact .inr h1
    ·exact .inl h
    ·exact .inr h
theorem RR.mono {w':World} {F':Fz} {ρ':Rho} {es:Nat} {xs:List V} {cv:Array Value} (h:RR w F ρ es xs cv) (hv:∀ (i:Nat) (x:V) (j:Nat) (y:V) (c:Value),xs[i]? = some x→x.cells[j]? = some y→VR (clOf w) F ρ y c→VR (clOf w') F' ρ' y c):RR w' F' ρ' es xs cv :=
 ⟨h.size,h.wid,fun i x j hx hj=>by
  obtain ⟨c,c1,c2,c3⟩:=h.cell i x j hx hj
  exact ⟨c,c1,c2,fun y hy=>hv i x j y c hx hy (c3 y hy)⟩⟩
theorem ok_refs {t e:TypeId} {m:Nat} {ps:Array (Nat×Operand)} {xs:List V} {r:Array Value} (ho:o.op = .buildSlice t m ps) (hR:RelF B n F ρ s a w)
  (hrun:(execOp a.eval o).run P w = .ok (.value (.slice (some ⟨w.heap.size,0,none⟩) m m)) (w.alloc (.cells r e))) (hr:RR w F ρ 1 xs r) (hm:m=xs.length) (hok:okCells xs=true)
  (hT:TD T o) (hk:fresh (envP P n gives C) o s (.refs xs) (fun k=>.sla k 0) K):OpOk P B n F ρ s T o a w K:=by
 subst hm
 refine okFresh (F:=F) (ρ:=ρ) (c:=.slice (some ⟨w.heap.size,0,none⟩) xs.length xs.length) (l:=⟨0,w.heap.size,0,xs.length,xs.length,1,0⟩) hT hk hrun (fun k hkk h64=>?_) (.alloc _ _) (fun k=>.slaNew)
 refine hR.bindNew _ k _ _ ?_ (fun g p ho=>?_) (fun p hp=>?_) h64
 ·show _∧_
  rw [upd_same]
  refine ⟨rfl,rfl,rfl,rfl,rfl,fun i v hv=>?_⟩
  obtain ⟨c,c1,c2,c3⟩:=hr.cell i v 0 hv (by omega)
  rw [Nat.mul_one,Nat.add_zero] at c1
  have hcl:=hr.wid i v hv
  have hcells:v.cells=[v]:=by
   cases v with
   | agg cs=>have:=okCells_mem.1 hok _ (List.mem_of_getElem? hv); simp [okCell] at this
   | _=>rfl
  refine ⟨c,by rw [cell_new]; exact c1,c2,?_⟩
  refine (c3 v (by rw [hcells]; rfl)).mono (fun _ _ h=>h) (fun _ _ _ _ hc=>clOf_alloc_some hc) (fun j hj=>?_)
  have:j≠k:=fun e=>hkk (by
   subst e
   simp only [keysS]
   exact keysC_mem.2 ⟨v,List.mem_of_getElem? hv,hj⟩)
  rw [upd_ne _ _ this]; exact agree.refl _
 ·simp only [owns,upd_same] at ho; exact ho.1
 ·rw [World.frozen?_alloc_new] at hp; cases hp
theorem ok_buildSlice {t:TypeId} {m:Nat} {ps:Array (Nat×Operand)} (ho:o.op = .buildSlice t m ps) (hR:RelF B n F ρ s a w) (hT:TD T o) (hk:buildSliceC (envP P n gives C) o t m ps s K):OpOk P B n F ρ s T o a w K:=by
 unfold buildSliceC at hk
 split at hk
 ·exact hk.elim
 rename_i e he
 split at hk
 ·exact hk.elim
 rename_i z hz
 obtain ⟨hb,hk⟩:=cond_inv hk
 simp only [Bool.and_eq_true] at hb
 obtain ⟨⟨⟨⟨b1,b2⟩,b3⟩,b4⟩,b5⟩:=hb
 have b2:m * szOf P e≤10000:=Nat.le_of_ble_eq_true b2
 have b3:1≤szOf P e:=Nat.le_of_ble_eq_true b3
 have b4:z.cells.length=szOf P e:=Nat.eq_of_beq_eq_true b4
 obtain ⟨it,zv,i1,i2,i3,_⟩:=zeroV_run (P:=P) hz
 have hzv:VR (clOf w) F ρ z zv:=i3 ▸ VR.ofVal zv
 obtain ⟨z1,z2⟩:=zero_rows (m:=m) hzv b5 b4 (by omega)
 obtain ⟨p1,p2⟩:=partsEv hR ps
 have hml:m=(List.replicate m z).length:=by simp
 obtain ⟨r,r1,r2⟩:=fill_rows (m:=m) _ _ _ _ p1 p2 z2 b1 hml
 have hrun:(execOp a.eval o).run P w = .ok (.value (.slice (some ⟨w.heap.size,0,none⟩) m m)) (w.alloc (.cells r e)):=by
  have:=run_buildSlice' (w:=w) (P:=P) (parts:=ps.map fun (i,x)=>(i,a.eval x)) (isSlice_some he) i1 i2 rfl z1 b2 (by omega) r1
  simp only [execOp,ho,Sem.run_bind,this,Result.andThen_ok,Sem.run_pure]
 have hlen:(setAll (List.replicate m z) (partsOf s ps)).length=m:=by rw [setAll_length,List.length_replicate]
 have hB:∀ {p q:Bool},(bif Nat.beq (szOf P e) 1 && q then fresh (envP P n gives C) o s (.refs (setAll (List.replicate m z) (partsOf s ps))) (fun k=>.sla k 0) K else False) →
   (q=okCells (setAll (List.replicate m z) (partsOf s ps)))→OpOk P B n F ρ s T o a w K:=fun {p q} hk hq=>by
  obtain ⟨hb,hk⟩:=cond_inv hk
  simp only [Bool.and_eq_true] at hb
  have h1:=Nat.eq_of_beq_eq_true hb.1
  exact ok_refs ho hR hrun (h1 ▸ r2) hlen.symm (hq ▸ hb.2) hT hk
 split at hk
 ·rename_i ys hys
  cases hfl:flat.flatL ys with
  | false=>rw [hfl] at hk; exact hB (p:=true) hk rfl
  | true =>
   rw [hfl] at hk
   simp only [cond_true] at hk
   generalize hxs:setAll (List.replicate m z) (partsOf s ps)=xs at *
   obtain ⟨F1,hR1,hF1⟩:=hR.freezeL (uniq (skeys.skeysC xs) [])
   have heq:=fun k=>look_freezeL (uniq (skeys.skeysC xs) []) s k
   obtain ⟨g1,g2⟩:=handC_get hys
   have hfl':=flatL_mem.1 hfl
   have hrow:∀ (i:Nat) (y:V),ys[i]? = some y→∃ x,xs[i]? = some x∧handV s.hp [] x=some y∧flat y=true∧y.cells.length=szOf P e:=fun i y hy=>by
    obtain ⟨x,h1,h2⟩:=g2 i y hy
    exact ⟨x,h1,h2,hfl' y (List.mem_of_getElem? hy),by rw [(handV_cells h2).1,r2.wid i x h1]⟩
   have hsk:∀ (i:Nat) (x:V),xs[i]? = some x→∀ k∈skeys x,k∈uniq (skeys.skeysC xs) []:=fun i x hx k hk=>by
    rw [uniq_mem]
    left
    have:∀ (l:List V),x∈l→k∈skeys.skeysC l:=fun l=>by
     induction l with
     | nil=>intro h; cases h
     | cons a r ih =>
      intro h
      simp only [skeys.skeysC,List.mem_append]
      rcases List.mem_cons.1 h with h | h
      ·subst h; exact .inl hk
      ·exact .inr (ih h)
    exact this xs (List.mem_of_getElem? hx)
   refine okFresh1 (F1:=F1) (ρ:=ρ) (c:=.slice (some ⟨w.heap.size,0,none⟩) m m) (l:=⟨0,w.heap.size,0,m,ys.length,szOf P e,0⟩) hT hk hrun
    (fun k hkk h64=>hR1.newRow k (szOf P e) ys r e (0,0) m (by omega) (.inl rfl) (by rw [r2.size,hlen]; exact Nat.le_refl _) (fun i y hy=>?_) (fun i y j hy hj=>?_) h64) (.alloc _ _) (fun h=>.pre hF1 (hR1.froz1 heq) (hR.froz2 hR1 heq) h) (fun k=>by rw [show ys.length=m by omega]; exact .slaNew)
   ·obtain ⟨x,h1,h2,h3,h4⟩:=hrow i y hy
    exact ⟨h4,h3⟩
   ·obtain ⟨x,h1,h2,h3,h4⟩:=hrow i y hy
    obtain ⟨c,c1,c2,c3⟩:=r2.cell i x j h1 hj
    refine ⟨c,c1,c2,fun u hu=>?_⟩
    obtain ⟨u0,u1,u2⟩:=(handV_cells h2).2 j u hu
    have hfu:=flat_cells h3 hu
    have hsub:∀ k∈skeys u0,k∈uniq (skeys.skeysC xs) []:=fun k hk=>hsk i x h1 k (by
     cases x with
     | agg cs =>
      simp only [V.cells] at u1
      simp only [skeys]
      have:∀ (l:List V),u0∈l→k∈skeys.skeysC l:=fun l=>by
       induction l with
       | nil=>intro h; cases h
       | cons a r ih =>
        intro h
        simp only [skeys.skeysC,List.mem_append]
        rcases List.mem_cons.1 h with h | h
        ·subst h; exact .inl hk
        ·exact .inr (ih h)
      exact this cs (List.mem_of_getElem? u1)
     | _ =>
      simp only [V.cells] at u1
      cases j with
      | zero=>simp at u1; subst u1; exact hk
      | succ j=>simp at u1)
    have:=handV_ok (ks:=[]) hR1.hr heq u0 hsub u2 ((c3 u0 u1).mono hF1 (fun _ _ _ _ h=>h) (fun _ _=>agree.refl _))
    exact this.flatρ hfu
 ·exact hB (p:=true) hk rfl
end
end Go.Proofs.YtdjldmolhkkipaaGreatDoor.Eng
end
section
set_option linter.unusedVariables false
set_option linter.unusedSimpArgs false
namespace Go.Proofs.YtdjldmolhkkipaaGreatDoor.Eng
open Go Go.Lib
section
variable {P:Program} {gives:FuncId→Bool} {C:CL}
variable {B:Base} {n:Nat} {F:Fz} {ρ:Rho} {s:S} {a:Act} {w:World} {o:Oper} {K:S→Prop} {T:Nat→Prop}
theorem skeysC_mem {cs:List V} {k:Nat} {u:V} (hu:u∈cs) (hk:k∈skeys u):k∈skeys.skeysC cs:=by
 induction cs with
 | nil=>cases hu
 | cons a r ih =>
  simp only [skeys.skeysC,List.mem_append]
  rcases List.mem_cons.1 hu with h | h
  ·subst h; exact .inl hk
  ·exact .inr (ih h)
theorem setE_cells {x:V} {off es:Nat} {ys:List V} (hx:x.cells.length=es) (hle:off+ys.length≤es) (hne:ys≠[]) (h1:∀ y∈ys,y.cells=[y]) :
  (setE x off ys).cells=setL x.cells off ys:=by
 cases x with
 | agg cs=>rfl
 | _ =>
  simp only [V.cells,List.length_cons,List.length_nil] at hx
  match off,ys,hle,hne,h1 with
  | 0,[v],_,_,h1=>simp only [setE,V.cells,setL,List.set_cons_zero]; exact h1 v (.head _)
  | 0,v :: u :: r,hle,_,_=>simp only [List.length_cons] at hle; omega
  | off+1,v :: r,hle,_,_=>simp only [List.length_cons] at hle; omega
theorem setE_flat {x:V} {off es:Nat} {ys:List V} (hx:x.cells.length=es) (hle:off+ys.length≤es) (hf:flat x=true) (h1:∀ y∈ys,flat y=true):flat (setE x off ys)=true:=by
 cases x with
 | agg cs =>
  simp only [setE,flat]
  refine flatL_mem.2 fun v hv=>?_
  obtain ⟨i,hi⟩:=List.getElem?_of_mem hv
  rw [setL_get _ _ _ _ (by simp only [V.cells] at hx; omega)] at hi
  split at hi
  ·exact h1 v (List.mem_of_getElem? hi)
  ·exact flatL_mem.1 (by simpa [flat] using hf) v (List.mem_of_getElem? hi)
 | _ =>
  simp only [setE]
  split
  ·exact h1 _ (.head _)
  ·exact hf
theorem ok_store {t:TypeId} {x y:Operand} (ho:o.op = .store t x y) (hR:RelF B n F ρ s a w) (hTk:∀ k∈pkey (s.ev x),T k) (hk:storeC (envP P n gives C) o t (s.ev x) (s.ev y) s K):OpOk P B n F ρ s T o a w K:=by
 unfold storeC at hk
 obtain ⟨hb,hk⟩:=cond_inv hk
 simp only [Bool.and_eq_true] at hb
 obtain ⟨⟨⟨b1,b2⟩,b3⟩,b4⟩:=hb
 have b1:(s.ev y).cells.length=szOf P t:=Nat.eq_of_beq_eq_true b1
 have b4:1≤szOf P t:=Nat.le_of_ble_eq_true b4
 have hd:o.dst=none:=by
  cases h:o.dst with
  | none=>rfl
  | some d=>rw [h] at b3; cases b3
 split at hk
 ·rename_i k off hx
  split at hk
  ·rename_i kds cs hl
   obtain ⟨hoff,hk⟩:=ite_inv hk
   exact op_storePtr ho hR hd hx hl b1 (by omega) b2 hoff (hTk k (by rw [hx]; exact .head _)) hk
  ·exact hk.elim
 ·rename_i k v i off hx
  split at hk
  case h_2=>exact hk.elim
  rename_i es xs own frz ver hl
  split at hk
  case h_2=>exact hk.elim
  rename_i ys hys
  obtain ⟨hb,hk⟩:=cond_inv hk
  simp only [Bool.and_eq_true,Bool.not_eq_true'] at hb
  obtain ⟨⟨c1,c2⟩,c3⟩:=hb
  have c1:=Nat.eq_of_beq_eq_true c1
  subst c1
  have hk2:=ite_inv hk
  clear hk
  obtain ⟨hfz,hk⟩:=hk2
  have hk2:=ite_inv hk
  clear hk
  obtain ⟨hi,hk⟩:=hk2
  have hk2:=ite_inv hk
  clear hk
  obtain ⟨hoff,hk⟩:=hk2
  subst hfz
  generalize hxv:s.ev y=xv at *
  have hey:=hR.ev y
  rw [hxv] at hey
  generalize hcy:a.eval y=cy at *
  obtain ⟨d1,d2⟩:=cells_rel b2 hey
  obtain ⟨F1,hR1,hF1⟩:=hR.freezeL (uniq (skeys.skeysC xv.cells) [])
  have heq:=fun k=>look_freezeL (uniq (skeys.skeysC xv.cells) []) s k
  have hnk:(uniq (skeys.skeysC xv.cells) []).any (Nat.beq k)=false:=by
   cases hb:(uniq (skeys.skeysC xv.cells) []).any (Nat.beq k)
   ·rfl
   ·obtain ⟨j,h1,h2⟩:=List.any_eq_true.1 hb
    have:=Nat.eq_of_beq_eq_true h2
    subst this
    rw [uniq_mem] at h1
    have:=List.any_eq_false.1 c3 k (by simpa using h1)
    simp [Nat.beq_refl] at this
  have hl1:look k (freezeL s (uniq (skeys.skeysC xv.cells) [])).hp=some (.arr es xs own false v):=by
   rw [heq k,hl]
   simp [froz,hnk]
  generalize hs1:freezeL s (uniq (skeys.skeysC xv.cells) [])=s1 at *
  obtain ⟨row,e1,e2,e3,e4⟩:=hR1.hr.row hl1
  obtain ⟨_,_,_,_,_,_,e7⟩:=hR1.hr.sr k _ hl1
  obtain ⟨g1,g2⟩:=handC_get hys
  have hyl:ys.length=szOf P t:=by omega
  have hyn:ys≠[]:=fun e=>by rw [e] at hyl; simp at hyl; omega
  have hyf:=flatL_mem.1 c2
  have hy1:∀ u∈ys,u.cells=[u]:=fun u hu=>by
   obtain ⟨j,hj⟩:=List.getElem?_of_mem hu
   obtain ⟨u0,h1,h2⟩:=g2 j u hj
   refine (handV_noAgg (fun cs e=>?_) h2).2
   subst e
   have:=okCells_mem.1 b2 _ (List.mem_of_getElem? h1)
   simp [okCell] at this
  have hpx:=hR.ev x
  rw [hx] at hpx
  generalize hcx:a.eval x=cx at hpx
  cases hpx with
  | pe hv h =>
  rename_i ad
  have hadr:=h e3.symm
  subst hadr
  rw [e1] at hcx
  have hieb:i * es+es≤xs.length * es:=by rw [← Nat.succ_mul]; exact Nat.mul_le_mul_right _ hi
  have hsz:cy.cells.size=ys.length:=by omega
  have hown:∀ q,q < xs.length * es→owns ρ k (.arr es xs own false v) (ρ k).ablk ((ρ k).base+q):=fun q hq=>⟨rfl,by omega,.inl ⟨rfl,by omega⟩⟩
  have hF2:∀ q p,F1 q p→¬ owns ρ k (.arr es xs own false v) q p:=fun q p hf hw=>(hR1.hr.free k _ _ _ hl1 hw).1 hf
  have hsome:∀ q,q < xs.length * es→(clOf w (ρ k).ablk ((ρ k).base+q)).isSome=true:=fun q hq=>by
   obtain ⟨q1,q2,q3⟩:=divmod_lt hq
   obtain ⟨c,h1,_⟩:=row.cell (q / es) _ (q % es) (List.getElem?_eq_getElem q1) q2
   rw [Nat.add_assoc,q3] at h1
   rw [h1]; rfl
  have hrun:=run_store' (P:=P) ho hcx hcy (by omega) (by omega) (fun j hj=>by
    rw [show (ρ k).base+i * es+off+j=(ρ k).base+(i * es+off+j) by omega]; exact hsome _ (by omega))
   (fun j hj=>by
    rw [show (ρ k).base+i * es+off+j=(ρ k).base+(i * es+off+j) by omega]; exact (hR1.hr.free k _ _ _ hl1 (hown _ (by omega))).2.1)
   (fun u hu=>by
    obtain ⟨j,hj⟩:=List.getElem?_of_mem hu
    rw [Array.getElem?_toList] at hj
    exact (d2 j u hj).1)
  have hlen:cy.cells.toList.length=ys.length:=by simpa using hsz
  have hsame:∀ q p,¬ owns ρ k (.arr es xs own false v) q p→clOf (w.setCells (ρ k).ablk ((ρ k).base+i * es+off) cy.cells.toList) q p=clOf w q p:=fun q p hno=>by
   refine setCells_out _ _ _ _ _ _ fun he=>?_
   subst he
   rw [hlen]
   by_cases h1:p < (ρ k).base+i * es+off
   ·exact .inl h1
   ·by_cases h2:p < (ρ k).base+i * es+off+ys.length
    ·have:=hown (p - (ρ k).base) (by omega)
     rw [show (ρ k).base+(p - (ρ k).base)=p by omega] at this
     exact absurd this hno
    ·right; omega
  have mono:∀ {y:V} {c:Value},VR (clOf w) F1 ρ y c→VR (clOf (w.setCells (ρ k).ablk ((ρ k).base+i * es+off) cy.cells.toList)) F1 ρ y c:=fun hv =>
   hv.mono (fun _ _ h=>h) (fun q p c' hf hc'=>by rw [hsame q p (hF2 q p hf)]; exact hc') (fun _ _=>agree.refl _)
  have hxi:xs.getD i .bad=xs[i]:=by simp [List.getD,hi]
  rw [hxi] at hk
  have hwi:=row.wid i xs[i] (List.getElem?_eq_getElem hi)
  have hcells:(setE xs[i] off ys).cells=setL xs[i].cells off ys:=setE_cells hwi.1 hoff hyn hy1
  have hset:∀ (j:Nat) (u:V),(xs.set i (setE xs[i] off ys))[j]? = some u→(j=i∧u=setE xs[i] off ys)∨(j≠i∧xs[j]? = some u):=fun j u hu=>by
   rw [List.getElem?_set] at hu
   split at hu
   ·rename_i e; subst e; cases hu; exact .inl ⟨rfl,rfl⟩
   ·rename_i e; exact .inr ⟨fun h=>e h.symm,hu⟩
  have hTk':T k:=hTk k (by rw [hx]; exact .head _)
  refine okSkip (F':=F1) (ρ':=upd ρ k (ρ k)) hd hk hrun
   (hR1.turn hl1 _ (ρ k) F1 _ w.heap.size (agree.refl _) (setCells_size _ _ _ _) hsame ⟨setCells_wd _ _ _ _,fun q p=>World.frozen?_setCells _ _ _ _ _⟩ (fun q hno=>?_) hR1.fr.size
    (fun q hf=>Nat.lt_irrefl _ (hR1.hr.fin _ _ hf)) (fun j y' q hy' ho'=>Nat.lt_irrefl _ (hR1.hr.free j y' _ q hy' ho').2.2) (fun _ _ h=>h) (fun _ _ h=>.inl h) ?_ (fun q p hw=>?_))
   (.pre hF1 (hR1.froz1 heq) (hR.froz2 hR1 heq) (.turn hTk' hl1 (fun _ _ h=>h) (Nat.le_of_eq (setCells_size _ _ _ _).symm) fun q p _ hno=>hsame q p hno))
  ·by_cases he:q=(ρ k).ablk
   ·subst he
    exact absurd (hown 0 (by omega)) (hno _)
   ·exact setCells_heap _ _ he _ _ _
  ·rw [upd_self]
   refine ⟨e1,by rw [List.length_set]; exact e2,e3,by rw [List.length_set]; exact e4,fun j u hu=>?_,fun j u jj hu hj=>?_,fun hon p h1 h2=>?_⟩
   ·rcases hset j u hu with ⟨rfl,rfl⟩ | ⟨hne,h'⟩
    ·exact ⟨by rw [hcells,setL_length]; exact hwi.1,setE_flat hwi.1 hoff hwi.2 hyf⟩
    ·exact row.wid j u h'
   ·rcases hset j u hu with ⟨rfl,rfl⟩ | ⟨hne,h'⟩
    ·rw [hcells]
     by_cases hjj:off≤jj∧jj < off+ys.length
     ·have hlt:jj - off < cy.cells.size:=by omega
      obtain ⟨q1,q2⟩:=d2 (jj - off) cy.cells[jj - off] (Array.getElem?_eq_getElem hlt)
      refine ⟨cy.cells[jj - off],?_,q1,fun z hz=>?_,fun h=>by cases h⟩
      ·have:=setCells_in (ρ k).ablk cy.cells.toList ((ρ k).base+j * es+off) w (fun q hq=>by
        rw [show (ρ k).base+j * es+off+q=(ρ k).base+(j * es+off+q) by omega]; exact hsome _ (by omega)) (jj - off) cy.cells[jj - off] (by simp [hlt])
       rwa [show (ρ k).base+j * es+off+(jj - off)=(ρ k).base+j * es+jj by omega] at this
      ·rw [setL_get _ _ _ _ (by rw [hwi.1]; exact hoff),if_pos hjj] at hz
       obtain ⟨u0,u1,u2⟩:=g2 _ z hz
       have hfz:=hyf z (List.mem_of_getElem? hz)
       have:=handV_ok (ks:=[]) hR1.hr heq u0 (fun k hk=>by rw [uniq_mem]; exact .inl (skeysC_mem (List.mem_of_getElem? u1) hk)) u2
        ((q2 u0 u1).mono hF1 (fun _ _ _ _ h=>h) (fun _ _=>agree.refl _))
       exact mono (this.flatρ hfz)
     ·obtain ⟨c',q1,q2,q3,q4⟩:=row.cell j xs[j] jj (List.getElem?_eq_getElem hi) hj
      refine ⟨c',?_,q2,fun z hz=>?_,fun h=>by cases h⟩
      ·rw [setCells_out]; exact q1
       intro _; omega
      ·rw [setL_get _ _ _ _ (by rw [hwi.1]; exact hoff),if_neg hjj] at hz
       exact mono (q3 z hz)
    ·obtain ⟨c',q1,q2,q3,q4⟩:=row.cell j u jj h' hj
     refine ⟨c',?_,q2,fun z hz=>mono (q3 z hz),fun h=>by cases h⟩
     rw [setCells_out]; exact q1
     intro _
     by_cases hc:(ρ k).base+j * es+jj < (ρ k).base+i * es+off
     ·exact .inl hc
     ·right
      rw [hlen]
      by_cases hc2:(ρ k).base+i * es+off+ys.length≤(ρ k).base+j * es+jj
      ·exact hc2
      ·exact absurd (row_div hj (by omega) (by omega)) hne
   ·rw [List.length_set] at h1
    rw [setCells_out]
    ·exact e7 hon p h1 h2
    ·intro _; right; rw [hlen]; omega
  ·rw [upd_self] at hw
   have:owns ρ k (.arr es xs own false v) q p:=by
    simp only [owns,List.length_set] at hw ⊢; exact hw
   exact ⟨fun hf=>hF2 _ _ hf this,.inl this⟩
 ·exact hk.elim
end
end Go.Proofs.YtdjldmolhkkipaaGreatDoor.Eng
end
section
set_option linter.unusedVariables false
set_option linter.unusedSimpArgs false
namespace Go.Proofs.YtdjldmolhkkipaaGreatDoor.Eng
open Go Go.Lib
section
variable {P:Program} {gives:FuncId→Bool} {C:CL}
variable {B:Base} {n:Nat} {F:Fz} {ρ:Rho} {s:S} {a:Act} {w:World} {o:Oper} {K:S→Prop} {T:Nat→Prop}
theorem part_run {t:TypeId} {xs:List V} {vs:Array Value} {off:Nat} {v:V} {d:TypeDesc} (hd:P.underlying t=some d) (hv:VR (clOf w) F ρ (.agg xs) (.agg vs)) (h:partV P t xs off=some v) :
  ∃ c,(∀ w',(part t vs off).run P w' = .ok c w')∧VR (clOf w) F ρ v c:=by
 cases hv with
 | agg hn hk hc =>
 unfold partV at h
 cases hb:aggB P t
 ·rw [hb] at h
  simp only [cond_false] at h
  have hlt:off < vs.size:=by
   have:=(List.getElem?_eq_some_iff.1 h).1
   omega
  exact ⟨vs[off],fun w'=>by simp [part,isAgg_run hd,hb,hlt],hc off v vs[off] h (Array.getElem?_eq_getElem hlt)⟩
 ·rw [hb] at h
  simp only [cond_true] at h
  cases hl:Nat.ble (off+szOf P t) xs.length
  ·rw [hl] at h; cases h
  rw [hl] at h
  cases h
  have hl:=Nat.le_of_ble_eq_true hl
  refine ⟨.agg (vs.extract off (off+szOf P t)),fun w'=>by simp [part,isAgg_run hd,hb,sizeOf_run hd],.agg ?_ (fun i c hi=>?_) (fun i u c hu hi=>?_)⟩
  ·rw [cutL_length hl,Array.size_extract]; omega
  ·rw [Array.getElem?_extract] at hi
   split at hi
   ·exact hk _ _ hi
   ·cases hi
  ·rw [Array.getElem?_extract] at hi
   split at hi
   ·rename_i hh
    rw [cutL_get (by omega)] at hu
    exact hc _ _ _ hu hi
   ·cases hi
theorem eqT_under {D:Nat} {t:TypeId} {x y:V} {b:Bool} (h:eqT P D t x y=some b):∃ d,P.underlying t=some d:=by
 cases D with
 | zero=>cases h
 | succ D =>
  cases hu:P.underlying t with
  | none=>simp only [eqT,hu] at h; cases h
  | some d=>exact ⟨d,rfl⟩
theorem andO_some {p q:Option Bool} {r:Bool} (h:andO p q=some r):∃ p' q',p=some p'∧q=some q'∧r=(p' && q'):=by
 unfold andO at h
 split at h
 ·cases h; exact ⟨_,_,rfl,rfl,rfl⟩
 ·cases h
theorem eqT_ok:∀ (D:Nat) (t:TypeId) (x y:V) (b:Bool) (cx cy:Value),eqT P D t x y=some b→VR (clOf w) F ρ x cx→VR (clOf w) F ρ y cy→∀ d,D≤d→∀ w',(Op.equalIn d t cx cy).run P w' = .ok b w':=by
 intro D
 induction D with
 | zero=>intro t x y b cx cy h; cases h
 | succ D ih =>
  intro t x y b cx cy h hx hy d hd w'
  obtain ⟨d,rfl⟩:∃ d',d=d'+1:=⟨d - 1,by omega⟩
  cases hu:P.underlying t with
  | none=>simp only [eqT,hu] at h; cases h
  | some td =>
  simp only [eqT,hu] at h
  cases td <;> simp only at h <;> try (cases h; done)
  ·split at h
   ·have:=hx.c_inv; subst this
    have:=hy.c_inv; subst this
    cases h
    exact run_equalIn_bool w' d t _ _ hu
   ·cases h
  ·split at h
   ·have:=hx.c_inv; subst this
    have:=hy.c_inv; subst this
    split at h
    ·rename_i hk; subst hk; cases h
     exact run_equalIn_int w' d t _ _ _ _ hu
    ·cases h
   ·cases h
  ·split at h
   ·have:=hx.c_inv; subst this
    have:=hy.c_inv; subst this
    cases h
    exact run_equalIn_string w' d t _ _ hu
   ·cases h
  ·rename_i m e
   split at h
   case h_2=>cases h
   rename_i xs ys
   cases hx with
   | @agg _ vs h1 h2 h3 =>
   cases hy with
   | @agg _ us g1 g2 g3 =>
   cases he:P.info? e with
   | none=>rw [he] at h; cases h
   | some it =>
   rw [he] at h
   simp only [Option.isSome_some,cond_true] at h
   have hco:P.cellsOf e=szOf P e:=by simp [Program.cellsOf,szOf,he]
   rw [run_equalIn_array w' d vs us hu he,hco]
   generalize List.range m=l at h
   clear hu
   induction l generalizing b with
   | nil=>simp only [eqEs] at h; cases h; simp [Op.eqItems]
   | cons f r ihl =>
    simp only [eqEs] at h
    split at h
    case h_2=>cases h
    rename_i p q hp1 hp2
    obtain ⟨b1,b2,e1,e2,rfl⟩:=andO_some h
    obtain ⟨fd,hfd⟩:=eqT_under e1
    obtain ⟨c1,r1,v1⟩:=part_run hfd (.agg h1 h2 h3) hp1
    obtain ⟨c2,r2,v2⟩:=part_run hfd (.agg g1 g2 g3) hp2
    have:=ih e p q b1 c1 c2 e1 v1 v2 d (by omega) w'
    simp only [Op.eqItems,Sem.run_bind,r1,r2,this,Result.andThen_ok]
    cases b1
    ·simp
    ·simpa using ihl b2 e2
  ·rename_i fs
   split at h
   case h_2=>cases h
   rename_i xs ys
   cases hp:P.stoodInHeld t with
   | true=>rw [hp] at h; cases h
   | false =>
   rw [hp] at h
   simp only [cond_false] at h
   cases hx with
   | @agg _ vs h1 h2 h3 =>
   cases hy with
   | @agg _ us g1 g2 g3 =>
   have hfo:P.fieldsOf t=fs:=by simp [Program.fieldsOf,hu]
   rw [run_equalIn_struct w' d t vs us (by rw [hfo]; exact hu) hp,hfo]
   generalize fs.toList=l at h
   clear hu hfo
   induction l generalizing b with
   | nil=>simp only [eqFs] at h; cases h; simp [Op.eqFields]
   | cons f r ihl =>
    simp only [eqFs] at h
    cases hn:f.name == "_" with
    | true =>
     rw [hn] at h
     have hne:¬ f.name≠"_":=by simpa using hn
     simp only [Op.eqFields,if_neg hne]
     exact ihl b h
    | false =>
     rw [hn] at h
     have hne:f.name≠"_":=by simpa using hn
     simp only [cond_false] at h
     split at h
     case h_2=>cases h
     rename_i p q hp1 hp2
     obtain ⟨b1,b2,e1,e2,rfl⟩:=andO_some h
     obtain ⟨fd,hfd⟩:=eqT_under e1
     obtain ⟨c1,r1,v1⟩:=part_run hfd (.agg h1 h2 h3) hp1
     obtain ⟨c2,r2,v2⟩:=part_run hfd (.agg g1 g2 g3) hp2
     have:=ih f.type p q b1 c1 c2 e1 v1 v2 d (by omega) w'
     simp only [Op.eqFields,if_pos hne,Sem.run_bind,r1,r2,this,Result.andThen_ok]
     cases b1
     ·simp
     ·simpa using ihl b2 e2
theorem ok_binA {op:BinOp} {t u:TypeId} {x y:Operand} {xs ys:List V} (ho:o.op = .binOp op t x y u) (hR:RelF B n F ρ s a w) (hx:s.ev x = .agg xs) (hy:s.ev y = .agg ys)
  (hk:binA (envP P n gives C) op t xs ys fun v=>fin (envP P n gives C) o s v K):PurOk C P n gives F ρ s o a w K:=by
 unfold binA at hk
 cases hg:(envP P n gives C).P.eqGuardType (envP P n gives C).P.depth t with
 | true=>rw [hg] at hk; exact hk.elim
 | false =>
 rw [hg] at hk
 simp only [cond_false] at hk
 have hg:P.eqGuardType P.depth t=false:=hg
 split at hk
 case h_2=>exact hk.elim
 rename_i b hb
 have ex:=hR.ev x
 have ey:=hR.ev y
 rw [hx] at ex
 rw [hy] at ey
 generalize hcx:a.eval x=cx at ex
 generalize hcy:a.eval y=cy at ey
 have heq:∀ w,(Op.equalIn 10000 t cx cy).run P w = .ok b w:=eqT_ok 9 t _ _ b cx cy hb ex ey 10000 (by omega)
 cases ex with
 | @agg _ vs h1 h2 h3 =>
 cases ey with
 | @agg _ us g1 g2 g3 =>
 split at hk
 ·refine op_bin ho hR hcx hcy (fun w=>?_) rfl hk
  simp only [Sem.run_bind,run_eqGuard_agg w _ t x y vs us hg,Result.andThen_ok,run_eql_struct,heq]
 ·refine op_bin ho hR hcx hcy (fun w=>?_) rfl hk
  simp only [Sem.run_bind,run_eqGuard_agg w _ t x y vs us hg,Result.andThen_ok,run_neq_struct,heq]
 ·exact hk.elim
theorem ok_bin {op:BinOp} {t u:TypeId} {x y:Operand} (ho:o.op = .binOp op t x y u) (hR:RelF B n F ρ s a w)
  (hk:binC (envP P n gives C) op t (constOf y) (s.ev x) (s.ev y) fun v=>fin (envP P n gives C) o s v K):PurOk C P n gives F ρ s o a w K:=by
 unfold binC at hk
 split at hk
 ·rename_i hx hy; exact ok_binI ho hR hx hy hk
 ·rename_i i j hx hy
  have ex:=mapEvC hR hx
  have ey:=mapEvC hR hy
  unfold binS at hk
  split at hk
  ·split at hk
   ·exact hk.elim
   ·rename_i hj; exact op_bin ho hR ex ey (fun _=>run_cat hj) rfl hk
  ·obtain ⟨r,h1,h2,h3⟩:=pureC_str hk
   exact op_bin ho hR ex ey (fun _=>run_strOp h1) h2 h3
 ·rename_i i j hx hy
  have ex:=mapEvC hR hx
  have ey:=mapEvC hR hy
  obtain ⟨hb,hk⟩:=cond_inv hk
  obtain ⟨r,h1,h2,h3⟩:=pureC_bool hk
  have ht:P.underlying t=some .bool:=by
   have hb:isBool P t=true:=hb
   unfold isBool at hb
   split at hb
   ·assumption
   ·cases hb
  exact op_bin ho hR ex ey (fun _=>run_boolOp ht h1) h2 h3
 ·rename_i xs ys hx hy; exact ok_binA ho hR hx hy hk
 ·exact ok_binN ho hR hk
end
end Go.Proofs.YtdjldmolhkkipaaGreatDoor.Eng
end
section
set_option linter.unusedVariables false
set_option linter.unusedSimpArgs false
namespace Go.Proofs.YtdjldmolhkkipaaGreatDoor.Eng
open Go Go.Lib
section
variable {w:World} {F:Fz} {ρ:Rho} {hp:List (Nat×Slot)} {ks:List Nat}
theorem handH_look {all:List Nat}:∀ (l:List Nat) (i0:Nat) (h:List (Nat×Slot)),handH hp all i0 l=some h →
  (∀ j y,look j h=some y→i0≤j∧∃ k x,l[j - i0]? = some k∧look k hp=some x∧handS hp all x=some y) ∧
  (∀ i k,l[i]? = some k→∃ x y,look k hp=some x∧handS hp all x=some y∧look (i0+i) h=some y)
 | [],i0,h,e=>by
  cases e
  exact ⟨fun j y h=>by simp [look] at h,fun i k h=>by simp at h⟩
 | k :: r,i0,h,e=>by
  simp only [handH] at e
  split at e
  ·rename_i x hx
   split at e
   ·rename_i y z hy hz
    cases e
    obtain ⟨h1,h2⟩:=handH_look r (i0+1) z hz
    refine ⟨fun j y' hj=>?_,fun i k' hi=>?_⟩
    ·rw [look_cons] at hj
     split at hj
     ·rename_i e; subst e; cases hj
      exact ⟨Nat.le_refl _,k,x,by simp,hx,hy⟩
     ·obtain ⟨q1,k',x',q2,q3,q4⟩:=h1 j y' hj
      exact ⟨by omega,k',x',by rw [show j - i0=(j - (i0+1))+1 by omega]; simpa using q2,q3,q4⟩
    ·cases i with
     | zero=>simp at hi; subst hi; exact ⟨x,y,hx,hy,by rw [look_cons]; simp⟩
     | succ i =>
      simp at hi
      obtain ⟨x',y',q1,q2,q3⟩:=h2 i k' hi
      refine ⟨x',y',q1,q2,?_⟩
      rw [look_cons,if_neg (by omega),show i0+(i+1)=i0+1+i by omega]; exact q3
   ·cases e
  ·cases e
theorem nodupB_get:∀ {l:List Nat},nodupB l=true→∀ i j k:Nat,l[i]? = some k→l[j]? = some k→i=j
 | [],_,i,j,k,h,_=>by simp at h
 | a :: r,hn,i,j,k,hi,hj=>by
  simp only [nodupB,Bool.and_eq_true,Bool.not_eq_true'] at hn
  have hno:∀ m,r[m]? = some a→False:=fun m hm=>by
   have:=List.any_eq_false.1 hn.1 a (List.mem_of_getElem? hm)
   simp [Nat.beq_refl] at this
  cases i with
  | zero =>
   cases j with
   | zero=>rfl
   | succ j=>simp at hi hj; subst hi; exact (hno j hj).elim
  | succ i =>
   cases j with
   | zero=>simp at hi hj; subst hj; exact (hno i hi).elim
   | succ j=>simp at hi hj; rw [nodupB_get hn.2 i j k hi hj]
theorem handRho_get {i k:Nat} (h:ks[i]? = some k):handRho ρ ks i={ ρ k with ver:=0 }:=by
 simp [handRho,List.getD,h]
theorem nil_froz (hp:List (Nat×Slot)):∀ k,look k hp=(look k hp).map (froz [] k):=fun k=>by
 cases look k hp <;> simp [froz_nil]
mutual
theorem rowV_ok (hh:HR w F ρ hp):∀ (v:V) {v':V} {c:Value},rowV hp ks v=some v'→VR (clOf w) F ρ v c→VR (clOf w) F (handRho ρ ks) v' c
 | .sla k u,v',c,h,hv=>by
  simp only [rowV] at h
  split at h
  ·rename_i es xs own frz ver i hl hi
   cases hb:Nat.beq u ver
   ·rw [hb] at h; cases h
   ·rw [hb] at h; cases h
    have:=Nat.eq_of_beq_eq_true hb
    subst this
    obtain ⟨_,e1,e2,e3,e4⟩:=hh.row hl
    cases hv with
    | sla hv h' =>
     refine .sla (Nat.zero_le _) fun _=>?_
     rw [handRho_idx hi]
     exact h' e3.symm
  ·cases h
 | .slm k p q u,v',c,h,hv=>by
  simp only [rowV] at h
  split at h
  ·rename_i es xs own frz ver i hl hi
   cases hb:Nat.beq u ver
   ·rw [hb] at h; cases h
   ·rw [hb] at h; cases h
    have:=Nat.eq_of_beq_eq_true hb
    subst this
    obtain ⟨_,e1,e2,e3,e4⟩:=hh.row hl
    cases hv with
    | slm hv h' =>
     refine .slm (Nat.zero_le _) fun _=>?_
     rw [handRho_idx hi]
     exact h' e3.symm
  ·cases h
 | .agg cs,v',c,h,hv=>by
  simp only [rowV] at h
  cases hc:rowV.rowC hp ks cs with
  | none=>rw [hc] at h; cases h
  | some ds =>
   rw [hc] at h; cases h
   obtain ⟨l1,l2⟩:=rowC_ok hh cs hc
   cases hv with
   | agg hn hk h' =>
    refine .agg (l1.trans hn) hk fun i u d hu hd=>?_
    have hi:i < cs.length:=by rw [← l1]; exact (List.getElem?_eq_some_iff.1 hu).1
    exact l2 i cs[i] u d (List.getElem?_eq_getElem hi) hu (h' i _ d (List.getElem?_eq_getElem hi) hd)
 | .fn f x y,v',c,h,hv=>by
  simp only [rowV] at h
  cases hb:(skeys.skeysC x++skeys.skeysC y).isEmpty
  ·rw [hb] at h; cases h
  ·rw [hb] at h
   have:skeys (.fn f x y)=[]:=by simpa [skeys] using hb
   exact handV_ok hh (nil_froz hp) (.fn f x y) (by rw [this]; intro k hk; cases hk) h hv
 | .c u,v',c,h,hv=>handV_ok hh (nil_froz hp) (.c u) (fun k hk=>by cases hk) h hv
 | .sl a b d,v',c,h,hv=>handV_ok hh (nil_froz hp) (.sl a b d) (fun k hk=>by cases hk) h hv
 | .ptr a b,v',c,h,hv=>handV_ok hh (nil_froz hp) (.ptr a b) (fun k hk=>by cases hk) h hv
 | .mp a,v',c,h,hv=>handV_ok hh (nil_froz hp) (.mp a) (fun k hk=>by cases hk) h hv
 | .pe ..,v',c,h,_ | .ep ..,v',c,h,_ | .tup _,v',c,h,_ | .it _,v',c,h,_ | .bad,v',c,h,_=>by simp [rowV,handV] at h
theorem rowC_ok (hh:HR w F ρ hp):∀ (vs:List V) {vs':List V},rowV.rowC hp ks vs=some vs' →
  vs'.length=vs.length∧∀ (i:Nat) (v v':V) (c:Value),vs[i]? = some v→vs'[i]? = some v'→VR (clOf w) F ρ v c→VR (clOf w) F (handRho ρ ks) v' c
 | [],vs',h=>by cases h; exact ⟨rfl,fun i v v' c hv=>by simp at hv⟩
 | v :: r,vs',h=>by
  simp only [rowV.rowC] at h
  cases hx:rowV hp ks v with
  | none=>rw [hx] at h; cases h
  | some x =>
   cases hy:rowV.rowC hp ks r with
   | none=>rw [hx,hy] at h; cases h
   | some y =>
    rw [hx,hy] at h; cases h
    have hv:=fun c=>rowV_ok hh v (v':=x) (c:=c) hx
    obtain ⟨l1,l2⟩:=rowC_ok hh r hy
    refine ⟨by simp [l1],fun i u u' c hu hu'=>?_⟩
    cases i with
    | zero=>simp at hu hu'; subst hu; subst hu'; exact hv c
    | succ i=>simp at hu hu'; exact l2 i u u' c hu hu'
end
theorem handS_ok (hh:HR w F ρ hp) {i k:Nat} {x y:Slot} (hk:ks[i]? = some k) (hl:look k hp=some x) (h:handS hp ks x=some y) :
  SR w F (handRho ρ ks) i y∧∀ g o,owns (handRho ρ ks) i y g o↔owns ρ k x g o:=by
 have hsr:=hh.sr k x hl
 have hr:=handRho_get (ρ:=ρ) hk
 cases x with
 | cells kds cs =>
  simp only [handS] at h
  cases hc:rowV.rowC hp ks cs with
  | none=>rw [hc] at h; cases h
  | some ds =>
   rw [hc] at h; cases h
   obtain ⟨l1,l2⟩:=rowC_ok hh cs hc
   refine ⟨fun j v hv=>?_,fun g o=>by simp only [owns,hr,l1]⟩
   have hj:j < cs.length:=by rw [← l1]; exact (List.getElem?_eq_some_iff.1 hv).1
   obtain ⟨c,c1,c2,c3⟩:=hsr j cs[j] (List.getElem?_eq_getElem hj)
   exact ⟨c,by rw [hr]; exact c1,c2,l2 j _ v c (List.getElem?_eq_getElem hj) hv c3⟩
 | arr es xs own frz ver =>
  cases h
  obtain ⟨h1,h2,h3,h4,h5,h6,h7⟩:=hsr
  refine ⟨?_,fun g o=>by simp only [owns,hr]⟩
  simp only [SR,hr]
  refine ⟨h1,h2,trivial,h4,h5,fun j x t hx ht=>?_,h7⟩
  obtain ⟨c,c1,c2,c3,c4⟩:=h6 j x t hx ht
  exact ⟨c,c1,c2,fun z hz=>(c3 z hz).flatρ (flat_cells (h5 j x hx).2 hz),c4⟩
 | refs xs=>cases h
 | map kvs =>
  cases h
  obtain ⟨es,n,h1,h2,h3⟩:=hsr
  refine ⟨?_,fun g o=>by simp only [owns,hr]⟩
  simp only [SR,hr]
  refine ⟨es,n,h1,h2,fun j p e hp he=>?_⟩
  obtain ⟨e1,e2,e3,e4⟩:=h3 j p e hp he
  exact ⟨e1,e2.mono (fun _ _ h=>h) (fun _ _ _ _ h=>h) (fun j hj=>by rw [e4] at hj; cases hj),e3,e4⟩
 | iter a b=>cases h
theorem handH_HR (hh:HR w F ρ hp) (hn:nodupB ks=true) {h:List (Nat×Slot)} (he:handH hp ks 0 ks=some h):HR w F (handRho ρ ks) h ∧
  ∀ j y,look j h=some y→∃ k x,ks[j]? = some k∧look k hp=some x∧handS hp ks x=some y∧∀ g o,owns (handRho ρ ks) j y g o↔owns ρ k x g o:=by
 obtain ⟨h1,h2⟩:=handH_look ks 0 h he
 have key:∀ j y,look j h=some y→∃ k x,ks[j]? = some k∧look k hp=some x∧handS hp ks x=some y∧SR w F (handRho ρ ks) j y∧∀ g o,owns (handRho ρ ks) j y g o↔owns ρ k x g o:=fun j y hj=>by
  obtain ⟨_,k,x,q1,q2,q3⟩:=h1 j y hj
  rw [Nat.sub_zero] at q1
  obtain ⟨r1,r2⟩:=handS_ok hh q1 q2 q3
  exact ⟨k,x,q1,q2,q3,r1,r2⟩
 refine ⟨⟨fun j y hj=>?_,fun j y g o hj ho=>?_,fun i j x y g o hi hj hij ho hoj=>?_,hh.fin⟩,fun j y hj=>?_⟩
 ·obtain ⟨k,x,_,_,_,r,_⟩:=key j y hj; exact r
 ·obtain ⟨k,x,_,q2,_,_,r⟩:=key j y hj
  exact hh.free k x g o q2 ((r g o).1 ho)
 ·obtain ⟨k,x',p1,q2,_,_,r⟩:=key i x hi
  obtain ⟨k',y',p1',q2',_,_,r'⟩:=key j y hj
  refine hh.apart k k' x' y' g o q2 q2' (fun e=>hij ?_) ((r g o).1 ho) ((r' g o).1 hoj)
  subst e
  exact nodupB_get hn i j k p1 p1'
 ·obtain ⟨k,x,p1,q2,q3,_,r⟩:=key j y hj
  exact ⟨k,x,p1,q2,q3,r⟩
end
end Go.Proofs.YtdjldmolhkkipaaGreatDoor.Eng
end
section
set_option linter.unusedVariables false
set_option linter.unusedSimpArgs false
namespace Go.Proofs.YtdjldmolhkkipaaGreatDoor.Eng
open Go Go.Lib
def OwnH (ρ:Rho) (h:List (Nat×Slot)) (g o:Nat):Prop:=∃ k x,look k h=some x∧owns ρ k x g o
structure Back (w:World) (F:Fz) (ρ:Rho) (h:List (Nat×Slot)) (w':World) (F':Fz) (ρ':Rho) (h':List (Nat×Slot)):Prop where
 hr:HR w' F' ρ' h'
 size:w.heap.size≤w'.heap.size
 same:∀ g,g < w.heap.size→(∀ o,¬ OwnH ρ h g o)→w'.heap[g]? = w.heap[g]?
 cell:∀ g o,g < w.heap.size→¬ OwnH ρ h g o→clOf w' g o=clOf w g o
 owned:∀ g o,OwnH ρ' h' g o→w.heap.size≤g∨OwnH ρ h g o
 fup:∀ g o,F g o→F' g o
 fnew:∀ g o,F' g o→g < w.heap.size→F g o∨OwnH ρ h g o
 keep:∀ k,k < 64→k < fixedN h→(ρ' k).blk=(ρ k).blk
 frz:Wd w w'∧∀ g o,g < w.heap.size→w'.frozen? ⟨g,o,none⟩=w.frozen? ⟨g,o,none⟩
def Keeps (G:List (Nat×Obj)) (w:World) (F:Fz):Prop:=∀ x∈G,w.heap[x.1]? = some x.2∧∀ o,F x.1 o
def FrameB (B:Base) (w:World) (F:Fz):Prop :=
 B.w0.heap.size≤w.heap.size∧(∀ g,g < B.w0.heap.size→(∀ o,¬ B.own g o)→w.heap[g]? = B.w0.heap[g]?)∧∀ g o,B.F g o→F g o
def SemC (P:Program) (C:World→Fz→Prop) (f:FuncId) (args:List V) (h:List (Nat×Slot)) (K:List V→List (Nat×Slot)→Prop):Prop :=
 ∀ (w:World) (F:Fz) (ρ:Rho) (vs:Array Value),C w F→args.length=vs.size→(∀ (i:Nat) (v:V) (c:Value),args[i]? = some v→vs[i]? = some c→VR (clOf w) F ρ v c)→HR w F ρ h →
  Calls P f vs w fun e w'=>∃ c rs h' F' ρ',e = .returned c∧VR (clOf w') F' ρ' (one rs) c∧Back w F ρ h w' F' ρ' h'∧K rs h'
abbrev SemFun (P:Program) (G:List (Nat×Obj)):=SemC P (Keeps G)
abbrev SemAt (P:Program) (B:Base):=SemC P (FrameB B)
theorem SemC.at {P:Program} {G:List (Nat×Obj)} {f:FuncId} {args:List V} {h:List (Nat×Slot)} {K:List V→List (Nat×Slot)→Prop} (hs:SemFun P G f args h K) {B:Base} (hG:Keeps G B.w0 B.F) (hB:∀ g o,B.own g o→¬ B.F g o):SemAt P B f args h K :=
 fun w F ρ vs hf=>hs w F ρ vs fun x hx=>by
  obtain ⟨h1,h2⟩:=hG x hx
  have hlt:x.1 < B.w0.heap.size:=(Array.getElem?_eq_some_iff.1 h1).1
  exact ⟨(hf.2.1 x.1 hlt fun o ho=>hB _ _ ho (h2 o)).trans h1,fun o=>hf.2.2 _ _ (h2 o)⟩
def Co (s s':S):Prop:=∀ (B:Base) (n:Nat) (a:Act) (w:World),Rel B n s a w→Rel B n s' a w
structure Sound (P:Program) (B:Base) (C:CL):Prop where
 call:∀ g as h k,C.call g as h k→SemAt P B g as h k
 loop:∀ m F s,C.loop m F s→∃ (I:Nat→S→Prop) (N:Nat) (s0:S),Co s s0∧I N s0∧∀ N s,I N s→∃ k:S→Prop,F k s∧∀ s',k s'→∃ M s2,M < N∧Co s' s2∧I M s2
section
variable {P:Program} {gives:FuncId→Bool} {C:CL}
variable {B:Base} {n:Nat} {F:Fz} {ρ ρ':Rho} {s:S} {a:Act} {w:World} {o:Oper} {K:S→Prop} {T:Nat→Prop}
structure Imp (B:Base) (n:Nat) (F:Fz) (ρ:Rho) (s:S) (a:Act) (w:World) (ρ':Rho) (h:List (Nat×Slot)) (X:Nat→Nat→Prop):Prop where
 rel:RelF B n F ρ s a w
 hr:HR w F ρ' h
 apart:∀ g p,OwnH ρ s.hp g p→¬ OwnH ρ' h g p
 owned:∀ g p,OwnH ρ' h g p→B.w0.heap.size≤g∨B.own g p
 xs:∀ g p,X g p→¬ OwnH ρ s.hp g p∧¬ OwnH ρ' h g p
theorem OwnH.del {h:List (Nat×Slot)} {k g p:Nat} (ho:OwnH ρ (del k h) g p):OwnH ρ h g p:=by
 obtain ⟨j,x,hl,ho⟩:=ho
 rw [look_del] at hl
 split at hl
 ·cases hl
 ·exact ⟨j,x,hl,ho⟩
theorem HR.del {hp:List (Nat×Slot)} (h:HR w F ρ hp) (k:Nat):HR w F ρ (del k hp):=by
 have get:∀ j x,look j (Eng.del k hp)=some x→look j hp=some x:=fun j x hl=>by
  rw [look_del] at hl
  split at hl
  ·cases hl
  ·exact hl
 exact ⟨fun j x hl=>h.sr j x (get j x hl),fun j x g p hl=>h.free j x g p (get j x hl),fun i j x y g p hi hj=>h.apart i j x y g p (get i x hi) (get j y hj),h.fin⟩
theorem Imp.bind {h:List (Nat×Slot)} {X Y:Nat→Nat→Prop} (hi:Imp B n F ρ s a w ρ' h Y) (k:Nat) (x:Slot) (l:Loc) (hk64:64≤k) (hx:SR w F (upd ρ k l) k x)
  (hfree:∀ g p,owns (upd ρ k l) k x g p→¬ F g p∧w.frozen? ⟨g,p,none⟩=false∧g < w.heap.size) (hY:∀ g p,owns (upd ρ k l) k x g p→Y g p)
  (how:∀ g p,owns (upd ρ k l) k x g p→B.w0.heap.size≤g∨B.own g p) (hX:∀ g p,X g p→Y g p∧¬ owns (upd ρ k l) k x g p) :
  Imp B n F (upd ρ k l) (s.bind k x) a w ρ' h X:=by
 have own':∀ g p,OwnH (upd ρ k l) (s.bind k x).hp g p→owns (upd ρ k l) k x g p∨OwnH ρ s.hp g p:=fun g p ⟨j,y,hl,ho⟩=>by
  simp only [S.bind,look_ins,look_map] at hl
  by_cases e:j=k
  ·subst e; simp only [if_true] at hl; cases hl; exact .inl ho
  ·simp only [e,if_false] at hl
   cases hu:look j s.hp with
   | none=>rw [hu] at hl; cases hl
   | some u=>rw [hu] at hl; cases hl; exact .inr ⟨j,u,hu,(owns_upd l e).1 (owns_kill.1 ho)⟩
 refine ⟨hi.rel.bind k x l hx hfree (fun g p ho j y hj hoj=>(hi.xs g p (hY g p ho)).1 ⟨j,y,hj,hoj⟩) how hk64,hi.hr,fun g p ho=>?_,hi.owned,fun g p hxp=>⟨fun ho=>?_,(hi.xs g p (hX g p hxp).1).2⟩⟩
 ·rcases own' g p ho with h1 | h1
  ·exact (hi.xs g p (hY g p h1)).2
  ·exact hi.apart g p h1
 ·rcases own' g p ho with h1 | h1
  ·exact (hX g p hxp).2 h1
  ·exact (hi.xs g p (hX g p hxp).1).1 h1
theorem Imp.take {h:List (Nat×Slot)} {X:Nat→Nat→Prop} (hi:Imp B n F ρ s a w ρ' h X) {j:Nat} {y:Slot} (hj:look j h=some y) :
  Imp B n F ρ s a w ρ' (del j h) (fun g p=>X g p∨owns ρ' j y g p):=by
 refine ⟨hi.rel,hi.hr.del j,fun g p ho hd=>hi.apart g p ho hd.del,fun g p ho=>hi.owned g p ho.del,fun g p hx=>?_⟩
 rcases hx with hx | hx
 ·exact ⟨(hi.xs g p hx).1,fun hd=>(hi.xs g p hx).2 hd.del⟩
 ·refine ⟨fun ho=>hi.apart g p ho ⟨j,y,hj,hx⟩,fun ⟨i,z,hz,hoz⟩=>?_⟩
  rw [look_del] at hz
  split at hz
  ·cases hz
  ·rename_i hne
   exact hi.hr.apart i j z y g p hz hj hne hoz hx
def fresh1 (d j j' k:Nat):Prop:=∃ q,j≤q∧q < j'∧k=dkey d q
theorem VR.upd {cl:Cl} {v:V} {c:Value} (h:VR cl F ρ v c) {k:Nat} {l:Loc} (hk:k∉keysV v):VR cl F (Eng.upd ρ k l) v c :=
 h.mono (fun _ _ h=>h) (fun _ _ _ _ h=>h) fun j hj=>by
  have:j≠k:=fun e=>hk (e ▸ hj)
  rw [upd_ne _ _ this]; exact agree.refl _
theorem asRow_ok {h:List (Nat×Slot)} {X:Nat→Nat→Prop} {es:Nat} {v:V} {c:Value} {K:List V→Bool→Bool→List (Nat×Slot)→Prop} (hi:Imp B n F ρ s a w ρ' h X) (hv:VR (clOf w) F ρ' v c)
  (hk:asRow (envP P n gives C) es v h K) (k:Nat) (hk64:64≤k):∃ xs own frz h1 l,K xs own frz h1∧Imp B n F (upd ρ k l) (s.bind k (.arr es xs own frz 0)) a w ρ' h1 X∧VR (clOf w) F (upd ρ k l) (.sla k 0) c:=by
 unfold asRow at hk
 split at hk
 ·rename_i es' fl xs
  obtain ⟨hb,hk⟩:=cond_inv hk
  have hv':VR (clOf w) F ρ' (.sl es fl xs) c:=by
   simp only [Bool.or_eq_true,List.isEmpty_iff] at hb
   rcases hb with h | h
   ·rw [Nat.eq_of_beq_eq_true h]; exact hv
   ·subst h; exact hv.nilEs
  cases hv' with
  | @sl _ _ _ ad m cap g p cf hn hc hf ha hw hF hvv =>
   subst hn
   have hno:∀ q i,¬ owns (upd ρ k ⟨0,g,p,cap,xs.length,es,0⟩) k (.arr es xs fl true 0) q i:=fun q i ho=>by
    simp only [owns,upd_same] at ho
    obtain ⟨_,h2,h3 | ⟨h3,h4,h5⟩⟩:=ho
    ·cases h3.1
    ·rw [hf h3] at h5; omega
   refine ⟨xs,fl,true,h,⟨0,g,p,cap,xs.length,es,0⟩,hk,hi.bind k _ _ hk64 ?_ (fun q i ho=>absurd ho (hno q i)) (fun q i ho=>absurd ho (hno q i)) (fun q i ho=>absurd ho (hno q i)) (fun q i hx=>⟨hx,hno q i⟩),?_⟩
   ·show _∧_
    rw [upd_same]
    refine ⟨rfl,rfl,rfl,hc,hw,fun i x j hx hj=>?_,fun ho q h1 h2=>?_⟩
    ·obtain ⟨q1,q2,q3⟩:=hF i x j hx hj
     exact ⟨cf i j,q2,q3,fun y hy=>(hvv i x j y hx hy).flatρ (flat_cells (hw i x hx).2 hy),fun _=>q1⟩
    ·simp only at h1 h2; rw [hf ho] at h2; omega
   ·refine .sla (by simp) fun _=>?_
    rw [upd_same]; exact ⟨rfl,rfl,ha⟩
 ·rename_i j
  split at hk
  ·rename_i es' xs own frz hl
   obtain ⟨hb,hk1⟩:=cond_inv hk
   have:=Nat.eq_of_beq_eq_true hb
   subst this
   have hsr:=hi.hr.sr j _ hl
   obtain ⟨h1,h2,h3,h4,h5,h6,h7⟩:=hsr
   have hoe:∀ q i,owns (upd ρ k (ρ' j)) k (.arr es xs own frz 0) q i↔owns ρ' j (.arr es xs own frz 0) q i:=fun q i=>by simp only [owns,upd_same]
   refine ⟨xs,own,frz,del j h,ρ' j,hk1,(hi.take hl).bind k _ _ hk64 ?_ (fun q i ho=>hi.hr.free j _ q i hl ((hoe q i).1 ho)) (fun q i ho=>.inr ((hoe q i).1 ho)) (fun q i ho=>hi.owned q i ⟨j,_,hl,(hoe q i).1 ho⟩)
    (fun q i hx=>⟨.inl hx,fun ho=>(hi.xs q i hx).2 ⟨j,_,hl,(hoe q i).1 ho⟩⟩),?_⟩
   ·show _∧_
    rw [upd_same]
    refine ⟨h1,h2,h3,h4,h5,fun i x jj hx hj=>?_,h7⟩
    obtain ⟨c',c1,c2,c3,c4⟩:=h6 i x jj hx hj
    exact ⟨c',c1,c2,fun y hy=>(c3 y hy).flatρ (flat_cells (h5 i x hx).2 hy),c4⟩
   ·cases hv with
    | sla hv' h' =>
     refine .sla (Nat.zero_le _) fun _=>?_
     rw [upd_same]
     exact h' h3.symm
  ·exact hk.elim
 ·exact hk.elim
end
end Go.Proofs.YtdjldmolhkkipaaGreatDoor.Eng
end
section
set_option linter.unusedVariables false
set_option linter.unusedSimpArgs false
namespace Go.Proofs.YtdjldmolhkkipaaGreatDoor.Eng
open Go Go.Lib
section
variable {P:Program} {gives:FuncId→Bool} {C:CL}
variable {B:Base} {n:Nat} {F:Fz} {ρ':Rho} {a:Act} {w:World}
theorem dkey_inj {d q q':Nat} (h:dkey d q=dkey d q'):q=q':=by unfold dkey at h; omega
theorem VR.noKeys {ρ ρ2:Rho} {cl:Cl} {v:V} {c:Value} (h:VR cl F ρ v c) (hk:keysV v=[]):VR cl F ρ2 v c :=
 h.mono (fun _ _ h=>h) (fun _ _ _ _ h=>h) fun j hj=>by rw [hk] at hj; cases hj
theorem VR.same {ρ ρ2:Rho} {cl:Cl} {v:V} {c:Value} (h:VR cl F ρ v c) (hk:∀ k∈keysV v,ρ2 k=ρ k):VR cl F ρ2 v c :=
 h.mono (fun _ _ h=>h) (fun _ _ _ _ h=>h) fun j hj=>by rw [hk j hj]; exact agree.refl _
def SKept (D:Nat→Prop) (ρ:Rho) (s:S) (ρ2:Rho) (s2:S):Prop:=∀ k x,¬ D k→look k s.hp=some x→∃ x',look k s2.hp=some x'∧∀ g p,owns ρ k x g p→owns ρ2 k x' g p
theorem SKept.refl (D:Nat→Prop) (ρ:Rho) (s:S):SKept D ρ s ρ s:=fun k x _ h=>⟨x,h,fun _ _ h=>h⟩
theorem SKept.trans {D:Nat→Prop} {ρ ρ1 ρ2:Rho} {s s1 s2:S} (h:SKept D ρ s ρ1 s1) (h':SKept D ρ1 s1 ρ2 s2):SKept D ρ s ρ2 s2:=fun k x hn hl=>by
 obtain ⟨x1,a1,a2⟩:=h k x hn hl
 obtain ⟨x2,b1,b2⟩:=h' k x1 hn a1
 exact ⟨x2,b1,fun g p ho=>b2 g p (a2 g p ho)⟩
theorem SKept.bind {D:Nat→Prop} {ρ:Rho} {s:S} {k:Nat} (x:Slot) (l:Loc) (hD:D k):SKept D ρ s (upd ρ k l) (s.bind k x):=fun j y hn hl=>by
 have e:j≠k:=fun e=>hn (e ▸ hD)
 exact ⟨killS k y,by simp only [S.bind,look_ins,look_map,e,if_false,hl,Option.map_some],fun g p ho=>owns_kill.2 ((owns_upd l e).2 ho)⟩
theorem SKept.reins {D:Nat→Prop} {ρ:Rho} {s:S} {k:Nat} (x:Slot) (hD:D k):SKept D ρ s ρ (s.upd k x):=fun j y hn hl=>by
 have e:j≠k:=fun e=>hn (e ▸ hD)
 exact ⟨y,by simp only [S.upd,look_ins,e,if_false]; exact hl,fun g p ho=>ho⟩
theorem SKept.weak {D D':Nat→Prop} {ρ ρ2:Rho} {s s2:S} (h:SKept D ρ s ρ2 s2) (hD:∀ k,D k→D' k):SKept D' ρ s ρ2 s2:=fun k x hn hl=>h k x (fun hd=>hn (hD k hd)) hl
def BackC (B:Base) (n:Nat) (F:Fz) (a:Act) (w:World) (ρ':Rho) (X:Nat→Nat→Prop) (d:Nat) (cs:List V) (cf:Nat→Value) (j:Nat) (ρ:Rho) (s:S) (K:List V→Nat→S→List (Nat×Slot)→Prop):Prop :=
 ∃ vs j' s' h' ρ2,K vs j' s' h'∧Imp B n F ρ2 s' a w ρ' h' X∧j≤j'∧vs.length=cs.length∧(∀ (i:Nat) (v:V),vs[i]? = some v→VR (clOf w) F ρ2 v (cf i)) ∧
  (∀ k∈keysV.keysC vs,fresh1 d j j' k)∧(∀ k,¬ fresh1 d j j' k→ρ2 k=ρ k)∧(j'=j∨j'≤16)∧SKept (fun k=>inD d k=true) ρ s ρ2 s'
theorem backC_ok (d:Nat):∀ (D:Nat) (kds:List Kd) (cs:List V) (cf:Nat→Value) (j:Nat) (s:S) (h:List (Nat×Slot)) (K:List V→Nat→S→List (Nat×Slot)→Prop) (ρ:Rho) (X:Nat→Nat→Prop),
  Imp B n F ρ s a w ρ' h X→(∀ (i:Nat) (v:V),cs[i]? = some v→VR (clOf w) F ρ' v (cf i))→backC (envP P n gives C) d D kds cs j s h K→BackC B n F a w ρ' X d cs cf j ρ s K:=by
 intro D
 induction D with
 | zero=>intro kds cs cf j s h K ρ X hi hv hk; exact hk.elim
 | succ D ih =>
  intro kds cs cf j s h K ρ X hi hv hk
  unfold backC at hk
  split at hk
  ·exact ⟨[],j,s,h,ρ,hk,hi,Nat.le_refl _,rfl,fun i v h=>by simp at h,fun k hk=>by simp [keysV.keysC] at hk,fun _ _=>rfl,.inl rfl,.refl _ _ _⟩
  ·rename_i kd r c cs
   have hc:=hv 0 c rfl
   have hvr:∀ (i:Nat) (v:V),cs[i]? = some v→VR (clOf w) F ρ' v (cf (i+1)):=fun i v h=>hv (i+1) v (by simpa using h)
   have one:∀ (v0:V) (j1:Nat) (s1:S) (h1:List (Nat×Slot)) (ρ1:Rho),j≤j1→Imp B n F ρ1 s1 a w ρ' h1 X→VR (clOf w) F ρ1 v0 (cf 0)→(∀ k∈keysV v0,fresh1 d j j1 k)→(∀ k,¬ fresh1 d j j1 k→ρ1 k=ρ k)→(j1=j∨j1≤16)→SKept (fun k=>inD d k=true) ρ s ρ1 s1 →
     backC (envP P n gives C) d D r cs j1 s1 h1 (fun vs j' s' h'=>K (v0 :: vs) j' s' h')→BackC B n F a w ρ' X d (c :: cs) cf j ρ s K:=by
    intro v0 j1 s1 h1 ρ1 hj hi1 hv0 hk0 hρ h16 hsk hk
    obtain ⟨vs,j',s',h',ρ2,q1,q2,q3,q4,q5,q6,q7,q8,q9⟩:=ih r cs (fun i=>cf (i+1)) j1 s1 h1 _ ρ1 X hi1 hvr hk
    refine ⟨v0 :: vs,j',s',h',ρ2,q1,q2,by omega,by simp [q4],fun i v hiv=>?_,fun k hkk=>?_,fun k hkk=>?_,by omega,hsk.trans q9⟩
    ·cases i with
     | zero =>
      simp at hiv
      subst hiv
      refine hv0.same fun k hkk=>q7 k fun ⟨q,e1,e2,e3⟩=>?_
      obtain ⟨p,p1,p2,p3⟩:=hk0 k hkk
      have:=dkey_inj (p3.symm.trans e3)
      omega
     | succ i=>simp at hiv; exact q5 i v hiv
    ·simp only [keysV.keysC,List.mem_append] at hkk
     rcases hkk with hkk | hkk
     ·obtain ⟨q,e1,e2,e3⟩:=hk0 k hkk; exact ⟨q,e1,by omega,e3⟩
     ·obtain ⟨q,e1,e2,e3⟩:=q6 k hkk; exact ⟨q,by omega,e2,e3⟩
    ·rw [q7 k fun ⟨q,e1,e2,e3⟩=>hkk ⟨q,by omega,e2,e3⟩]
     exact hρ k fun ⟨q,e1,e2,e3⟩=>hkk ⟨q,e1,by omega,e3⟩
   have hself:fresh1 d j (j+1) (dkey d j):=⟨j,Nat.le_refl _,by omega,rfl⟩
   have hother:∀ k,¬ fresh1 d j (j+1) k→k≠dkey d j:=fun k hk e=>hk ⟨j,Nat.le_refl _,by omega,e⟩
   have h64:64≤dkey d j:=Nat.le_add_right _ _
   have hin:j+1≤16→inD d (dkey d j)=true:=fun h=>by
    simp only [inD,dkey,Bool.and_eq_true]
    exact ⟨Nat.ble_eq_true_of_le (by omega),Nat.ble_eq_true_of_le (by omega)⟩
   have plain:∀ kd,asCellP kd (some c) False (fun v=>bif (keysV v).isEmpty then backC (envP P n gives C) d D r cs j s h fun vs j' s' h'=>K (v :: vs) j' s' h' else False)→BackC B n F a w ρ' X d (c :: cs) cf j ρ s K:=by
    intro kd hk
    obtain ⟨u,v,e,hv0,hk⟩:=givesP (cl:=clOf w) (F:=F) (ρ:=ρ') _ _ _ hk
    cases e
    obtain ⟨hb,hk⟩:=cond_inv hk
    have hb:keysV v=[]:=by simpa using hb
    exact one v j s h ρ (Nat.le_refl _) hi ((hv0 _ hc).noKeys hb) (by rw [hb]; intro k hk; cases hk) (fun _ _=>rfl) (.inl rfl) (.refl _ _ _) hk
   split at hk
   ·rename_i es
    obtain ⟨hb,hk⟩:=cond_inv hk
    obtain ⟨xs,own,frz,h1,l,k1,k2,k3⟩:=asRow_ok hi hc hk (dkey d j) h64
    exact one _ (j+1) _ h1 _ (by omega) k2 k3 (fun k hk=>by
     simp only [keysV,List.mem_singleton] at hk
     subst hk; exact hself) (fun k hk=>upd_ne ρ l (hother k hk)) (.inr (Nat.le_of_ble_eq_true hb)) (.bind _ l (hin (Nat.le_of_ble_eq_true hb))) k1
   ·rename_i t
    have hk2:=cond_inv hk
    clear hk
    obtain ⟨hb,hk⟩:=hk2
    unfold asPtr at hk
    split at hk
    case h_2=>exact hk.elim
    rename_i jj
    split at hk
    case h_2=>exact hk.elim
    rename_i kds0 cs0 hl
    have hsr:=hi.hr.sr jj _ hl
    have hblk:cf 0 = .pointer (some ⟨(ρ' jj).blk,0,none⟩):=by
     generalize cf 0=c0 at hc
     cases hc; rfl
    obtain ⟨ws,j1,s1,h1,ρ1,q1,q2,q3,q4,q5,q6,q7,q8,q9⟩:=ih (kinds (envP P n gives C).P 9 t) cs0 (fun i=>(clOf w (ρ' jj).blk i).getD undef) (j+1) s (del jj h) _ ρ _ (hi.take hl) (fun i v hv=>by
     obtain ⟨c',c1,c2,c3⟩:=hsr i v hv
     simp only [c1,Option.getD_some]; exact c3) hk
    have hne:∀ k∈keysV.keysC ws,k≠dkey d j:=fun k hk e=>by
     obtain ⟨q,e1,e2,e3⟩:=q6 k hk
     have:=dkey_inj (e.symm.trans e3)
     omega
    have hoe:∀ g p,owns (upd ρ1 (dkey d j) (ρ' jj)) (dkey d j) (.cells (kinds (envP P n gives C).P 9 t) ws) g p↔owns ρ' jj (.cells kds0 cs0) g p:=fun g p=>by simp only [owns,upd_same,q4]
    have q2':=q2.bind (X:=X) (dkey d j) (.cells (kinds (envP P n gives C).P 9 t) ws) (ρ' jj) h64 (by
      intro i v hv
      rw [upd_same]
      have hi0:i < cs0.length:=by rw [← q4]; exact (List.getElem?_eq_some_iff.1 hv).1
      obtain ⟨c',c1,c2,c3⟩:=hsr i cs0[i] (List.getElem?_eq_getElem hi0)
      have:=q5 i v hv
      simp only [c1,Option.getD_some] at this
      exact ⟨c',c1,c2,this.upd fun hm=>hne _ (keysC_mem.2 ⟨v,List.mem_of_getElem? hv,hm⟩) rfl⟩)
     (fun g p ho=>hi.hr.free jj _ g p hl ((hoe g p).1 ho)) (fun g p ho=>.inr ((hoe g p).1 ho)) (fun g p ho=>hi.owned g p ⟨jj,_,hl,(hoe g p).1 ho⟩)
     (fun g p hx=>⟨.inl hx,fun ho=>(hi.xs g p hx).2 ⟨jj,_,hl,(hoe g p).1 ho⟩⟩)
    have hj16:j+1≤16:=Nat.le_of_ble_eq_true hb
    refine one _ j1 _ h1 _ (by omega) q2' ?_ (fun k hk=>?_) (fun k hk=>?_) (by omega) (q9.trans (.bind _ _ (hin hj16))) q1
    ·rw [hblk]
     have:=VR.ptr (cl:=clOf w) (F:=F) (ρ:=upd ρ1 (dkey d j) (ρ' jj)) (k:=dkey d j) (off:=0)
     rwa [upd_same] at this
    ·simp only [keysV,List.mem_singleton] at hk
     subst hk; exact ⟨j,Nat.le_refl _,by omega,rfl⟩
    ·rw [upd_ne _ _ (fun e=>hk ⟨j,Nat.le_refl _,by omega,e⟩)]
     exact q7 k fun ⟨q,e1,e2,e3⟩=>hk ⟨q,by omega,e2,e3⟩
   ·cases hm:isMp c with
    | false =>
     rw [hm] at hk
     simp only [cond_false] at hk
     exact plain _ hk
    | true =>
     rw [hm] at hk
     simp only [cond_true] at hk
     have hk2:=cond_inv hk
     clear hk
     obtain ⟨hb,hk⟩:=hk2
     have hj16:j+1≤16:=Nat.le_of_ble_eq_true hb
     unfold asMapB at hk
     split at hk
     case h_2=>exact hk.elim
     rename_i jj
     split at hk
     case h_2=>exact hk.elim
     rename_i kvs hl
     have hsr:=hi.hr.sr jj _ hl
     have hblk:cf 0 = .map (some (ρ' jj).blk):=by
      generalize cf 0=c0 at hc
      cases hc; rfl
     have hoe:∀ g p,owns (upd ρ (dkey d j) (ρ' jj)) (dkey d j) (.map kvs) g p↔owns ρ' jj (.map kvs) g p:=fun g p=>by simp only [owns,upd_same]
     have q2':=(hi.take hl).bind (X:=X) (dkey d j) (.map kvs) (ρ' jj) h64 (by
       obtain ⟨es,m,h1,h2,h3⟩:=hsr
       simp only [SR,upd_same]
       refine ⟨es,m,h1,h2,fun i p e hp he=>?_⟩
       obtain ⟨e1,e2,e3,e4⟩:=h3 i p e hp he
       exact ⟨e1,e2.noKeys e4,e3,e4⟩)
      (fun g p ho=>hi.hr.free jj _ g p hl ((hoe g p).1 ho)) (fun g p ho=>.inr ((hoe g p).1 ho)) (fun g p ho=>hi.owned g p ⟨jj,_,hl,(hoe g p).1 ho⟩)
      (fun g p hx=>⟨.inl hx,fun ho=>(hi.xs g p hx).2 ⟨jj,_,hl,(hoe g p).1 ho⟩⟩)
     refine one _ (j+1) _ _ _ (by omega) q2' ?_ (fun k hk=>?_) (fun k hk=>upd_ne ρ _ (hother k hk)) (.inr hj16) (.bind _ _ (hin hj16)) hk
     ·rw [hblk]
      have:=VR.mp (cl:=clOf w) (F:=F) (ρ:=upd ρ (dkey d j) (ρ' jj)) (k:=dkey d j)
      rwa [upd_same] at this
     ·simp only [keysV,List.mem_singleton] at hk
      subst hk; exact hself
   ·exact plain kd hk
  ·exact hk.elim
end
end Go.Proofs.YtdjldmolhkkipaaGreatDoor.Eng
end
section
set_option linter.unusedVariables false
set_option linter.unusedSimpArgs false
namespace Go.Proofs.YtdjldmolhkkipaaGreatDoor.Eng
open Go Go.Lib
section
variable {P:Program} {gives:FuncId→Bool} {C:CL}
variable {B:Base} {n:Nat} {F:Fz} {ρ':Rho} {a:Act} {w:World}
theorem RelF.reins {ρ:Rho} {s:S} (h:RelF B n F ρ s a w) (k:Nat) (x:Slot) (hx:SR w F ρ k x)
  (hfree:∀ g o,owns ρ k x g o→¬ F g o∧w.frozen? ⟨g,o,none⟩=false∧g < w.heap.size)
  (hap:∀ g o,owns ρ k x g o→¬ OwnH ρ s.hp g o) (how:∀ g o,owns ρ k x g o→B.w0.heap.size≤g∨B.own g o) :
  RelF B n F ρ (s.upd k x) a w:=by
 have get:∀ j y,look j (s.upd k x).hp=some y→(j=k∧y=x)∨(j≠k∧look j s.hp=some y):=fun j y hy=>by
  simp only [S.upd,look_ins] at hy
  by_cases e:j=k
  ·subst e; simp only [if_true] at hy; cases hy; exact .inl ⟨rfl,rfl⟩
  ·simp only [e,if_false] at hy; exact .inr ⟨e,hy⟩
 refine ⟨h.size,h.defers,h.tm,⟨fun j y hy=>?_,fun j y g o hy ho=>?_,fun i j y z g o hy hz hij ho hoz=>?_,h.hr.fin⟩,⟨h.fr.size,h.fr.same,h.fr.cell,fun j y g o hy ho=>?_,h.fr.fup,h.fr.fnew,h.fr.keep,h.fr.frz⟩⟩
 ·rcases get j y hy with ⟨rfl,rfl⟩ | ⟨_,h1⟩
  ·exact hx
  ·exact h.hr.sr j y h1
 ·rcases get j y hy with ⟨rfl,rfl⟩ | ⟨_,h1⟩
  ·exact hfree g o ho
  ·exact h.hr.free j y g o h1 ho
 ·rcases get i y hy with ⟨rfl,rfl⟩ | ⟨_,h1⟩
  ·rcases get j z hz with ⟨rfl,rfl⟩ | ⟨_,h2⟩
   ·exact hij rfl
   ·exact hap g o ho ⟨j,z,h2,hoz⟩
  ·rcases get j z hz with ⟨rfl,rfl⟩ | ⟨_,h2⟩
   ·exact hap g o hoz ⟨i,y,h1,ho⟩
   ·exact h.hr.apart i j y z g o h1 h2 hij ho hoz
 ·rcases get j y hy with ⟨rfl,rfl⟩ | ⟨_,h1⟩
  ·exact how g o ho
  ·exact h.fr.owned j y g o h1 ho
theorem Imp.reins {ρ:Rho} {s:S} {h:List (Nat×Slot)} {X Y:Nat→Nat→Prop} (hi:Imp B n F ρ s a w ρ' h Y) (k:Nat) (x:Slot) (hx:SR w F ρ k x)
  (hfree:∀ g p,owns ρ k x g p→¬ F g p∧w.frozen? ⟨g,p,none⟩=false∧g < w.heap.size) (hY:∀ g p,owns ρ k x g p→Y g p)
  (how:∀ g p,owns ρ k x g p→B.w0.heap.size≤g∨B.own g p) (hX:∀ g p,X g p→Y g p∧¬ owns ρ k x g p) :
  Imp B n F ρ (s.upd k x) a w ρ' h X:=by
 have own':∀ g p,OwnH ρ (s.upd k x).hp g p→owns ρ k x g p∨OwnH ρ s.hp g p:=fun g p ⟨j,y,hl,ho⟩=>by
  simp only [S.upd,look_ins] at hl
  by_cases e:j=k
  ·subst e; simp only [if_true] at hl; cases hl; exact .inl ho
  ·simp only [e,if_false] at hl; exact .inr ⟨j,y,hl,ho⟩
 refine ⟨hi.rel.reins k x hx hfree (fun g p ho=>(hi.xs g p (hY g p ho)).1) how,hi.hr,fun g p ho=>?_,hi.owned,fun g p hxp=>⟨fun ho=>?_,(hi.xs g p (hX g p hxp).1).2⟩⟩
 ·rcases own' g p ho with h1 | h1
  ·exact (hi.xs g p (hY g p h1)).2
  ·exact hi.apart g p h1
 ·rcases own' g p ho with h1 | h1
  ·exact (hX g p hxp).2 h1
  ·exact (hi.xs g p (hX g p hxp).1).1 h1
theorem fresh1_inD {d j j' k:Nat} (h16:j'=j∨j'≤16) (h:fresh1 d j j' k):inD d k=true:=by
 obtain ⟨q,e1,e2,e3⟩:=h
 subst e3
 simp only [inD,dkey,Bool.and_eq_true]
 exact ⟨Nat.ble_eq_true_of_le (by omega),Nat.ble_eq_true_of_le (by omega)⟩
theorem backH_ok (d m:Nat) (hp0:List (Nat×Slot)):∀ (l:List Nat) (i j:Nat) (s:S) (h:List (Nat×Slot)) (K:Nat→S→List (Nat×Slot)→Prop) (ρ:Rho) (X:Nat→Nat→Prop),
  Imp B n F ρ s a w ρ' h X→(∀ q k,l[q]? = some k→inD d k=false∧(i+q < m→(ρ' (i+q)).blk=(ρ k).blk))→backH (envP P n gives C) d m hp0 i l j s h K →
  ∃ j' s' h' ρ2,K j' s' h'∧Imp B n F ρ2 s' a w ρ' h' X∧(∀ k,inD d k=false→ρ2 k=ρ k)∧SKept (fun k=>inD d k=true∨k∈l) ρ s ρ2 s'
 | [],i,j,s,h,K,ρ,X,hi,hq,hk=>⟨j,s,h,ρ,hk,hi,fun _ _=>rfl,.refl _ _ _⟩
 | k :: r,i,j,s,h,K,ρ,X,hi,hq,hk=>by
  have hq':∀ ρ2:Rho,(∀ k,inD d k=false→ρ2 k=ρ k)→∀ q k',r[q]? = some k'→inD d k'=false∧(i+1+q < m→(ρ' (i+1+q)).blk=(ρ2 k').blk):=fun ρ2 h2 q k' hk'=>by
   obtain ⟨h3,h4⟩:=hq (q+1) k' (by simpa using hk')
   exact ⟨h3,fun h5=>by rw [h2 k' h3,show i+1+q=i+(q+1) by omega]; exact h4 (by omega)⟩
  obtain ⟨hkd,hkb⟩:=hq 0 k rfl
  simp only [backH] at hk
  split at hk
  ·rename_i kds cs0 hl0
   have hk2:=cond_inv hk
   clear hk
   obtain ⟨hm,hk⟩:=hk2
   have hm:i < m:=Nat.le_of_ble_eq_true hm
   unfold asPtr at hk
   simp only at hk
   split at hk
   case h_2=>exact hk.elim
   rename_i kds1 cs hl
   have hsr:=hi.hr.sr i _ hl
   obtain ⟨ws,j1,s1,h1,ρ1,q1,q2,q3,q4,q5,q6,q7,q8,q9⟩:=backC_ok d 100 kds cs (fun i'=>(clOf w (ρ' i).blk i').getD undef) j s (del i h) _ ρ _ (hi.take hl) (fun i' v hv=>by
    obtain ⟨c',c1,c2,c3⟩:=hsr i' v hv
    simp only [c1,Option.getD_some]; exact c3) hk
   have hρ1:∀ k,inD d k=false→ρ1 k=ρ k:=fun k hk=>q7 k fun hf=>by rw [fresh1_inD q8 hf] at hk; cases hk
   have hblk:(ρ1 k).blk=(ρ' i).blk:=by rw [hρ1 k hkd]; exact (hkb (by omega)).symm
   have hoe:∀ g p,owns ρ1 k (.cells kds ws) g p↔owns ρ' i (.cells kds1 cs) g p:=fun g p=>by simp only [owns,q4,hblk]
   have q2':=q2.reins (X:=X) k (.cells kds ws) (by
     intro i' v hv
     rw [hblk]
     have hi0:i' < cs.length:=by rw [← q4]; exact (List.getElem?_eq_some_iff.1 hv).1
     obtain ⟨c',c1,c2,c3⟩:=hsr i' cs[i'] (List.getElem?_eq_getElem hi0)
     have:=q5 i' v hv
     simp only [c1,Option.getD_some] at this
     exact ⟨c',c1,c2,this⟩)
    (fun g p ho=>hi.hr.free i _ g p hl ((hoe g p).1 ho)) (fun g p ho=>.inr ((hoe g p).1 ho)) (fun g p ho=>hi.owned g p ⟨i,_,hl,(hoe g p).1 ho⟩)
    (fun g p hx=>⟨.inl hx,fun ho=>(hi.xs g p hx).2 ⟨i,_,hl,(hoe g p).1 ho⟩⟩)
   obtain ⟨j',s',h',ρ2,p1,p2,p3,p4⟩:=backH_ok d m hp0 r (i+1) j1 _ h1 K ρ1 X q2' (hq' ρ1 hρ1) q1
   exact ⟨j',s',h',ρ2,p1,p2,fun k hk=>(p3 k hk).trans (hρ1 k hk),
    ((q9.weak fun _ h=>.inl h).trans (.reins _ (.inr (.head _)))).trans (p4.weak fun _ h=>h.imp id (.tail _))⟩
  ·obtain ⟨j',s',h',ρ2,p1,p2,p3,p4⟩:=backH_ok d m hp0 r (i+1) j s h K ρ X hi (hq' ρ fun _ _=>rfl) hk
   exact ⟨j',s',h',ρ2,p1,p2,p3,p4.weak fun _ h=>h.imp id (.tail _)⟩
theorem backR_ok (d:Nat):∀ (ts:List TypeId) (rs:List V) (cf:Nat→Value) (j:Nat) (s:S) (h:List (Nat×Slot)) (K:List V→S→Prop) (ρ:Rho),
  Imp B n F ρ s a w ρ' h (fun _ _=>False)→(∀ (i:Nat) (v:V),rs[i]? = some v→VR (clOf w) F ρ' v (cf i))→backR (envP P n gives C) d ts rs j s h K →
  ∃ vs s' ρ2,K vs s'∧RelF B n F ρ2 s' a w∧vs.length=rs.length∧(∀ (i:Nat) (v:V),vs[i]? = some v→VR (clOf w) F ρ2 v (cf i))∧(∀ k,¬ (∃ q,j≤q∧k=dkey d q)→ρ2 k=ρ k)∧(∀ k∈keysV.keysC vs,∃ q,j≤q∧k=dkey d q)∧SKept (fun k=>inD d k=true) ρ s ρ2 s'
 | [],[],cf,j,s,h,K,ρ,hi,hv,hk=>⟨[],s,ρ,hk,hi.rel,rfl,fun i v h=>by simp at h,fun _ _=>rfl,fun k hk=>by simp [keysV.keysC] at hk,.refl _ _ _⟩
 | [],x :: rs,cf,j,s,h,K,ρ,hi,hv,hk=>by simp only [backR] at hk; exact hk.elim
 | t :: r,[],cf,j,s,h,K,ρ,hi,hv,hk=>by simp only [backR] at hk; exact hk.elim
 | t :: r,x :: rs,cf,j,s,h,K,ρ,hi,hv,hk=>by
  have hx:=hv 0 x rfl
  have hvr:∀ (i:Nat) (v:V),rs[i]? = some v→VR (clOf w) F ρ' v (cf (i+1)):=fun i v h=>hv (i+1) v (by simpa using h)
  have one:∀ (v0:V) (j1:Nat) (s1:S) (h1:List (Nat×Slot)) (ρ1:Rho),j≤j1→Imp B n F ρ1 s1 a w ρ' h1 (fun _ _=>False)→VR (clOf w) F ρ1 v0 (cf 0)→(∀ k∈keysV v0,fresh1 d j j1 k)→(∀ k,¬ fresh1 d j j1 k→ρ1 k=ρ k)→SKept (fun k=>inD d k=true) ρ s ρ1 s1 →
    backR (envP P n gives C) d r rs j1 s1 h1 (fun ws s''=>K (v0 :: ws) s'')→∃ vs s' ρ2,K vs s'∧RelF B n F ρ2 s' a w∧vs.length=(x :: rs).length∧(∀ (i:Nat) (v:V),vs[i]? = some v→VR (clOf w) F ρ2 v (cf i))∧(∀ k,¬ (∃ q,j≤q∧k=dkey d q)→ρ2 k=ρ k)∧(∀ k∈keysV.keysC vs,∃ q,j≤q∧k=dkey d q)∧SKept (fun k=>inD d k=true) ρ s ρ2 s':=by
   intro v0 j1 s1 h1 ρ1 hj hi1 hv0 hk0 hρ hsk hk
   obtain ⟨vs,s',ρ2,q1,q2,q3,q4,q5,q6,q7⟩:=backR_ok d r rs (fun i=>cf (i+1)) j1 s1 h1 _ ρ1 hi1 hvr hk
   refine ⟨v0 :: vs,s',ρ2,q1,q2,by simp [q3],fun i v hiv=>?_,fun k hkk=>?_,fun k hkk=>?_,hsk.trans q7⟩
   ·cases i with
    | zero =>
     simp at hiv
     subst hiv
     refine hv0.same fun k hkk=>q5 k fun ⟨q,e1,e3⟩=>?_
     obtain ⟨p,p1,p2,p3⟩:=hk0 k hkk
     have:=dkey_inj (p3.symm.trans e3)
     omega
    | succ i=>simp at hiv; exact q4 i v hiv
   ·rw [q5 k fun ⟨q,e1,e3⟩=>hkk ⟨q,by omega,e3⟩]
    exact hρ k fun ⟨q,e1,e2,e3⟩=>hkk ⟨q,e1,e3⟩
   ·simp only [keysV.keysC,List.mem_append] at hkk
    rcases hkk with hkk | hkk
    ·obtain ⟨q,e1,e2,e3⟩:=hk0 k hkk; exact ⟨q,e1,e3⟩
    ·obtain ⟨q,e1,e3⟩:=q6 k hkk; exact ⟨q,by omega,e3⟩
  simp only [backR] at hk
  cases hb:aggB (envP P n gives C).P t with
  | true =>
   rw [hb] at hk
   simp only [cond_true] at hk
   split at hk
   case h_2=>exact hk.elim
   rename_i cs
   obtain ⟨arr,harr⟩:∃ arr,cf 0 = .agg arr:=by
    generalize cf 0=c0 at hx
    cases hx; exact ⟨_,rfl⟩
   rw [harr] at hx
   cases hx with
   | agg hn hko hcc =>
   obtain ⟨vs,j1,s1,h1,ρ1,q1,q2,q3,q4,q5,q6,q7,q8,q9⟩:=backC_ok d 100 _ cs (fun i=>(arr[i]?).getD undef) j s h _ ρ _ hi (fun i v hv=>by
    have hi':i < arr.size:=by rw [← hn]; exact (List.getElem?_eq_some_iff.1 hv).1
    rw [Array.getElem?_eq_getElem hi',Option.getD_some]
    exact hcc i v _ hv (Array.getElem?_eq_getElem hi')) hk
   refine one (.agg vs) j1 s1 h1 ρ1 q3 q2 ?_ (by simpa only [keysV] using q6) q7 q9 q1
   rw [harr]
   refine .agg (by rw [q4,hn]) hko fun i v c hv hc=>?_
   have:=q5 i v hv
   simp only [hc,Option.getD_some] at this
   exact this
  | false =>
   rw [hb] at hk
   simp only [cond_false] at hk
   split at hk
   case h_2=>exact hk.elim
   rename_i kd hkd
   obtain ⟨vs,j1,s1,h1,ρ1,q1,q2,q3,q4,q5,q6,q7,q8,q9⟩:=backC_ok d 100 [kd] [x] cf j s h _ ρ _ hi (fun i v hv=>by
    cases i with
    | zero=>simp at hv; subst hv; exact hx
    | succ i=>simp at hv) hk
   match vs,q4 with
   | [v0],_ =>
    refine one v0 j1 s1 h1 ρ1 q3 q2 (q5 0 v0 rfl) (fun k hk=>q6 k (by simp only [keysV.keysC,List.append_nil]; exact hk)) q7 q9 q1
end
end Go.Proofs.YtdjldmolhkkipaaGreatDoor.Eng
end
section
set_option linter.unusedVariables false
set_option linter.unusedSimpArgs false
namespace Go.Proofs.YtdjldmolhkkipaaGreatDoor.Eng
open Go Go.Lib
section
variable {P:Program} {gives:FuncId→Bool} {C:CL}
variable {B:Base} {n:Nat} {F F':Fz} {ρ ρ':Rho} {s:S} {a:Act} {w w':World} {o:Oper} {K:S→Prop} {T:Nat→Prop}
theorem look_delL:∀ (ks:List Nat) (hp:List (Nat×Slot)) (k:Nat),look k (delL hp ks)=if k∈ks then none else look k hp
 | [],hp,k=>by simp [delL]
 | j :: r,hp,k=>by
  rw [delL,look_delL r,look_del]
  by_cases h:k∈r
  ·simp [h]
  ·by_cases e:k=j
   ·subst e; simp
   ·simp [h,e]
theorem Imp.start {h h':List (Nat×Slot)} {ks:List Nat} (hR:RelF B n F ρ s a w) (hn:nodupB ks=true) (he:handH s.hp ks 0 ks=some h) (hb:Back w F (handRho ρ ks) h w' F' ρ' h') :
  Imp B n F' ρ ⟨s.tm,delL s.hp ks⟩ a w' ρ' h' (fun _ _=>False):=by
 obtain ⟨hh,hown⟩:=handH_HR hR.hr hn he
 have own:∀ g p,OwnH (handRho ρ ks) h g p→∃ k x,k∈ks∧look k s.hp=some x∧owns ρ k x g p:=fun g p ⟨j,y,hj,ho⟩=>by
  obtain ⟨k,x,q1,q2,q3,q4⟩:=hown j y hj
  exact ⟨k,x,List.mem_of_getElem? q1,q2,(q4 g p).1 ho⟩
 have get:∀ k x,look k (delL s.hp ks)=some x→k∉ks∧look k s.hp=some x:=fun k x hl=>by
  rw [look_delL] at hl
  split at hl
  ·cases hl
  ·exact ⟨by assumption,hl⟩
 have hno:∀ k x g p,look k (delL s.hp ks)=some x→owns ρ k x g p→¬ OwnH (handRho ρ ks) h g p:=fun k x g p hl ho hO=>by
  obtain ⟨h1,h2⟩:=get k x hl
  obtain ⟨k',x',q1,q2,q3⟩:=own g p hO
  exact hR.hr.apart k k' x x' g p h2 q2 (fun e=>h1 (e ▸ q1)) ho q3
 have hFc:∀ g p,F g p→clOf w' g p=clOf w g p:=fun g p hf=>by
  refine hb.cell g p (hR.hr.fin g p hf) fun hO=>?_
  obtain ⟨k',x',q1,q2,q3⟩:=own g p hO
  exact (hR.hr.free k' x' g p q2 q3).1 hf
 have hbase:∀ g p,OwnH (handRho ρ ks) h g p→B.w0.heap.size≤g∨B.own g p:=fun g p hO=>by
  obtain ⟨k',x',q1,q2,q3⟩:=own g p hO
  exact hR.fr.owned k' x' g p q2 q3
 refine ⟨⟨hR.size,hR.defers,fun t v hv=>?_,⟨fun k x hl=>?_,fun k x g p hl ho=>?_,fun i j x y g p hi hj hij ho hoj=>?_,hb.hr.fin⟩,
  ⟨Nat.le_trans hR.fr.size hb.size,fun g hlt hno'=>?_,fun g p hlt hno'=>?_,fun k x g p hl ho=>?_,fun g p hf=>hb.fup g p (hR.fr.fup g p hf),fun g p hf hlt=>?_,hR.fr.keep,⟨hR.fr.frz.1.trans hb.frz.1,fun g p hlt=>?_⟩⟩⟩,
  hb.hr,fun g p ⟨k,x,hl,ho⟩ hO=>?_,fun g p hO=>?_,fun g p hx=>hx.elim⟩
 ·exact (hR.tm t v hv).mono hb.fup (fun g p c hf hc=>by rw [hFc g p hf]; exact hc) (fun _ _=>agree.refl _)
 ·obtain ⟨h1,h2⟩:=get k x hl
  refine (hR.hr.sr k x h2).other (fun g p hgp=>?_) (fun g hgp=>?_) hb.fup (fun _=>agree.refl _) rfl
  ·rcases hgp with hf | ho
   ·exact hFc g p hf
   ·exact hb.cell g p (hR.hr.free k x g p h2 ho).2.2 (hno k x g p hl ho)
  ·exact hb.same g (hR.hr.free k x g 0 h2 (hgp 0)).2.2 fun p=>hno k x g p hl (hgp p)
 ·obtain ⟨h1,h2⟩:=get k x hl
  obtain ⟨b1,b2,b3⟩:=hR.hr.free k x g p h2 ho
  refine ⟨fun hf=>?_,by rw [hb.frz.2 g p b3]; exact b2,Nat.lt_of_lt_of_le b3 hb.size⟩
  rcases hb.fnew g p hf b3 with hf | hO
  ·exact b1 hf
  ·exact hno k x g p hl ho hO
 ·exact hR.hr.apart i j x y g p (get i x hi).2 (get j y hj).2 hij ho hoj
 ·rw [hb.same g (Nat.lt_of_lt_of_le hlt hR.fr.size) fun p hO=>?_]
  ·exact hR.fr.same g hlt hno'
  ·rcases hbase g p hO with h1 | h1
   ·omega
   ·exact hno' p h1
 ·rw [hb.cell g p (Nat.lt_of_lt_of_le hlt hR.fr.size) fun hO=>?_]
  ·exact hR.fr.cell g p hlt hno'
  ·rcases hbase g p hO with h1 | h1
   ·omega
   ·exact hno' h1
 ·exact hR.fr.owned k x g p (get k x hl).2 ho
 ·rcases hb.fnew g p hf (Nat.lt_of_lt_of_le hlt hR.fr.size) with hf | hO
  ·exact hR.fr.fnew g p hf hlt
  ·rcases hbase g p hO with h1 | h1
   ·omega
   ·exact .inr h1
 ·exact (hb.frz.2 g p (Nat.lt_of_lt_of_le hlt hR.fr.size)).trans (hR.fr.frz.2 g p hlt)
 ·rcases hb.owned g p hO with h1 | h1
  ·have:=(hR.hr.free k x g p (get k x hl).2 ho).2.2; omega
  ·exact hno k x g p hl ho h1
 ·rcases hb.owned g p hO with h1 | h1
  ·exact .inl (Nat.le_trans hR.fr.size h1)
  ·exact hbase g p h1
theorem one_ok {cl:Cl} {rs:List V} {c:Value} (h:VR cl F ρ (one rs) c):∃ cf:Nat→Value,(∀ (i:Nat) (v:V),rs[i]? = some v→VR cl F ρ v (cf i)) ∧
  ∀ (F2:Fz) (ρ2:Rho) (vs:List V),vs.length=rs.length→(∀ (i:Nat) (v:V),vs[i]? = some v→VR cl F2 ρ2 v (cf i))→VR cl F2 ρ2 (one vs) c:=by
 by_cases h1:∃ r,rs=[r]
 ·obtain ⟨r,rfl⟩:=h1
  refine ⟨fun _=>c,fun i v hv=>?_,fun F2 ρ2 vs hl hvs=>?_⟩
  ·cases i with
   | zero=>simp at hv; subst hv; exact h
   | succ i=>simp at hv
  ·match vs,hl with
   | [v],_=>exact hvs 0 v rfl
 ·have ho:∀ l:List V,l.length=rs.length→one l = .tup l:=fun l hl=>by
   match l,hl with
   | [],_=>rfl
   | [v],hl =>
    match rs,hl with
    | [r],_=>exact absurd ⟨r,rfl⟩ h1
   | v :: u :: r,_=>rfl
  rw [ho rs rfl] at h
  cases h with
  | @tup _ vs hn hc =>
   refine ⟨fun i=>(vs[i]?).getD undef,fun i v hv=>?_,fun F2 ρ2 us hl hus=>?_⟩
   ·have hi:i < vs.size:=by rw [← hn]; exact (List.getElem?_eq_some_iff.1 hv).1
    simp only [Array.getElem?_eq_getElem hi,Option.getD_some]
    exact hc i v _ hv (Array.getElem?_eq_getElem hi)
   ·rw [ho us hl]
    refine .tup (by rw [hl,hn]) fun i u c hu hc'=>?_
    have:=hus i u hu
    simp only [hc',Option.getD_some] at this
    exact this
theorem call_core {g:FuncId} {fn:Func} {vs:Array Value} {as:List V} {h:List (Nat×Slot)} {ks:List Nat} {d:Nat} (hR:RelF B n F ρ s a w) (hn:nodupB ks=true) (he:handH s.hp ks 0 ks=some h)
  (hl:as.length=vs.size) (has:∀ (i:Nat) (v:V) (c:Value),as[i]? = some v→vs[i]? = some c→VR (clOf w) F (handRho ρ ks) v c)
  (hrun:(execOp a.eval o).run P w = .ok (.enter g vs) w) (hd:o.dst=some d) (hdn:d < n) (hks:ks.any (inD d)=false) (h64:ks.length≤64)
  (hk:SemAt P B g as h fun rs h'=>backH (envP P n gives C) d (fixedN h) s.hp 0 ks 0 ⟨s.tm,delL s.hp ks⟩ h' fun j s2 h2=>backR (envP P n gives C) d fn.resultTypes.toList rs j s2 h2 fun vs s3=>K (s3.put d (one vs)))
  (hT:∀ k∈ks,T k) (hTd:∀ k,inD d k=true→T k):OpOk P B n F ρ s T o a w K:=by
 intro next Q hnx
 simp only [Oper.wp,hrun,Oper.upon]
 obtain ⟨hh,hown⟩:=handH_HR hR.hr hn he
 refine Calls.mono (hk w F (handRho ρ ks) vs ⟨hR.fr.size,hR.fr.same,hR.fr.fup⟩ hl has hh) fun e w' hr=>?_
 obtain ⟨c,rs,h',F',ρ',rfl,hv,hb,hk⟩:=hr
 simp only
 have hi:=Imp.start hR hn he hb
 have hinD:∀ k∈ks,inD d k=false:=fun k hk=>by
  cases hb:inD d k
  ·rfl
  ·have:=List.any_eq_false.1 hks k hk; exact absurd hb (by simpa using this)
 obtain ⟨j2,s2,h2,ρ2,p1,p2,p3,p4⟩:=backH_ok d (fixedN h) s.hp ks 0 0 _ h' _ ρ _ hi (fun q k hq=>⟨hinD k (List.mem_of_getElem? hq),fun hm=>by
  have hq64:q < 64:=Nat.lt_of_lt_of_le (List.getElem?_eq_some_iff.1 hq).1 h64
  rw [Nat.zero_add] at hm ⊢
  rw [hb.keep q hq64 hm,handRho_get hq]⟩) hk
 obtain ⟨cf,c1,c2⟩:=one_ok hv
 obtain ⟨us,s3,ρ3,q1,q2,q3,q4,q5,q6,q7⟩:=backR_ok d _ rs cf j2 s2 h2 _ ρ2 p2 c1 p1
 have hR3:=q2.put hdn (c2 F' ρ3 us q3 q4)
 rw [hd]
 refine hnx _ F' ρ3 _ w' hR3 (Kept.put ⟨hb.fup,hb.size,fun g p hlt hno=>hb.cell g p hlt fun ⟨j,y,hj,ho⟩=>?_,fun k x g p hnT hl ho=>.inr ?_⟩ d _) q1
 ·obtain ⟨k,x,r1,r2,r3,r4⟩:=hown j y hj
  exact hno k x (hT k (List.mem_of_getElem? r1)) r2 ((r4 g p).1 ho)
 ·have hkn:k∉ks:=fun hm=>hnT (hT k hm)
  have hkd:¬ inD d k=true:=fun hm=>hnT (hTd k hm)
  have hl0:look k (delL s.hp ks)=some x:=by rw [look_delL,if_neg hkn]; exact hl
  obtain ⟨x2,e1,e2⟩:=p4 k x (fun hh=>hh.elim hkd hkn) hl0
  obtain ⟨x3,f1,f2⟩:=q7 k x2 hkd e1
  exact ⟨x3,f1,f2 g p (e2 g p ho)⟩
end
end Go.Proofs.YtdjldmolhkkipaaGreatDoor.Eng
end
section
set_option linter.unusedVariables false
set_option linter.unusedSimpArgs false
namespace Go.Proofs.YtdjldmolhkkipaaGreatDoor.Eng
open Go Go.Lib
section
variable {P:Program} {gives:FuncId→Bool} {C:CL}
variable {B:Base} {n:Nat} {F F':Fz} {ρ ρ':Rho} {s:S} {a:Act} {w w':World} {o:Oper} {K:S→Prop} {T:Nat→Prop}
theorem backC_scalar (d:Nat):∀ (D:Nat) (kds:List Kd) (cs:List V) (j:Nat) (s:S) (h:List (Nat×Slot)) (K:List V→Nat→S→List (Nat×Slot)→Prop),
  kds.all eqKd=true→backC (envP P n gives C) d D kds cs j s h K→∃ vs,K vs j s h∧vs=cs∧∀ v∈vs,∃ u,v = .c u:=by
 intro D
 induction D with
 | zero=>intro kds cs j s h K _ hk; exact hk.elim
 | succ D ih =>
  intro kds cs j s h K ha hk
  unfold backC at hk
  split at hk
  ·exact ⟨[],hk,rfl,fun v hv=>by cases hv⟩
  ·rename_i kd r c cs
   simp only [List.all_cons,Bool.and_eq_true] at ha
   have go:∀ v,c=v→(∃ u,v = .c u)→(bif (keysV v).isEmpty then backC (envP P n gives C) d D r cs j s h fun vs j' s' h'=>K (v :: vs) j' s' h' else False)→∃ vs,K vs j s h∧vs=c :: cs∧∀ v∈vs,∃ u,v = .c u:=by
    intro v hv hu hk
    obtain ⟨_,hk⟩:=cond_inv hk
    obtain ⟨vs,q1,q2,q3⟩:=ih r cs j s h _ ha.2 hk
    refine ⟨v :: vs,q1,by rw [q2,hv],fun u hu'=>?_⟩
    rcases List.mem_cons.1 hu' with h | h
    ·rw [h]; exact hu
    ·exact q3 u h
   cases kd with
   | int k =>
    simp only at hk
    obtain ⟨m,e,hk1⟩:=asInt_inv hk
    cases e
    exact go _ rfl ⟨_,rfl⟩ hk1
   | bool =>
    simp only at hk
    obtain ⟨m,e,hk1⟩:=asBool_inv hk
    cases e
    exact go _ rfl ⟨_,rfl⟩ hk1
   | str =>
    simp only at hk
    obtain ⟨m,e,hk1⟩:=asStr_inv hk
    cases e
    exact go _ rfl ⟨_,rfl⟩ hk1
   | sl es=>exact absurd ha.1 (by simp [eqKd])
   | ptr t=>exact absurd ha.1 (by simp [eqKd])
   | oth=>exact absurd ha.1 (by simp [eqKd])
  ·exact hk.elim
theorem VR.plainC {cl cl':Cl} {F2:Fz} {ρ2:Rho} {v:V} {c:Value} (h:VR cl F ρ v c) (hv:∃ u,v = .c u):VR cl' F2 ρ2 v c:=by
 obtain ⟨u,rfl⟩:=hv
 cases h with
 | c hok=>exact .c hok
theorem backR_scalar (d:Nat):∀ (ts:List TypeId) (rs:List V) (cf:Nat→Value) (j:Nat) (s:S) (h:List (Nat×Slot)) (K:List V→S→Prop),scalarR P ts=true →
  (∀ (i:Nat) (v:V),rs[i]? = some v→VR (clOf w) F ρ' v (cf i))→backR (envP P n gives C) d ts rs j s h K →
  ∃ vs,K vs s∧vs.length=rs.length∧∀ (i:Nat) (v:V),vs[i]? = some v→∀ (cl2:Cl) (F2:Fz) (ρ2:Rho),VR cl2 F2 ρ2 v (cf i)
 | [],[],cf,j,s,h,K,_,hv,hk=>⟨[],hk,rfl,fun i v h=>by simp at h⟩
 | [],x :: rs,cf,j,s,h,K,_,hv,hk=>by simp only [backR] at hk; exact hk.elim
 | t :: r,[],cf,j,s,h,K,_,hv,hk=>by simp only [backR] at hk; exact hk.elim
 | t :: r,x :: rs,cf,j,s,h,K,hs,hv,hk=>by
  simp only [scalarR,Bool.and_eq_true] at hs
  have hx:=hv 0 x rfl
  have hvr:∀ (i:Nat) (v:V),rs[i]? = some v→VR (clOf w) F ρ' v (cf (i+1)):=fun i v h=>hv (i+1) v (by simpa using h)
  have one:∀ v0:V,(∀ (cl2:Cl) (F2:Fz) (ρ2:Rho),VR cl2 F2 ρ2 v0 (cf 0))→backR (envP P n gives C) d r rs j s h (fun ws s''=>K (v0 :: ws) s'') →
    ∃ vs,K vs s∧vs.length=(x :: rs).length∧∀ (i:Nat) (v:V),vs[i]? = some v→∀ (cl2:Cl) (F2:Fz) (ρ2:Rho),VR cl2 F2 ρ2 v (cf i):=by
   intro v0 h0 hk
   obtain ⟨vs,q1,q2,q3⟩:=backR_scalar d r rs (fun i=>cf (i+1)) j s h _ hs.2 hvr hk
   refine ⟨v0 :: vs,q1,by simp [q2],fun i v hi=>?_⟩
   cases i with
   | zero=>simp at hi; subst hi; exact h0
   | succ i=>simp at hi; exact q3 i v hi
  simp only [backR] at hk
  cases hb:aggB (envP P n gives C).P t with
  | true =>
   rw [hb] at hk
   simp only [cond_true] at hk
   split at hk
   case h_2=>exact hk.elim
   rename_i cs
   obtain ⟨vs,q1,q2,q3⟩:=backC_scalar d 100 _ cs j s h _ hs.1 hk
   subst q2
   refine one _ (fun cl2 F2 ρ2=>?_) q1
   generalize cf 0=c0 at hx
   cases hx with
   | agg hn hko hcc=>exact .agg hn hko fun i v c hv hc=>(hcc i v c hv hc).plainC (q3 v (List.mem_of_getElem? hv))
  | false =>
   rw [hb] at hk
   simp only [cond_false] at hk
   split at hk
   case h_2=>exact hk.elim
   rename_i kd hkd
   have hkd:kinds P 9 t=[kd]:=hkd
   obtain ⟨vs,q1,q2,q3⟩:=backC_scalar d 100 [kd] [x] j s h _ (by rw [← hkd]; exact hs.1) hk
   subst q2
   exact one x (fun cl2 F2 ρ2=>hx.plainC (q3 x (.head _))) q1
theorem call_scalar {g:FuncId} {fn:Func} {vs:Array Value} {as args:List V} {d:Nat} (hR:RelF B n F ρ s a w)
  (hl:args.length=vs.size) (hargs:∀ (i:Nat) (v:V) (c:Value),args[i]? = some v→vs[i]? = some c→VR (clOf w) F ρ v c) (has:handV.handC s.hp [] args=some as)
  (hrun:(execOp a.eval o).run P w = .ok (.enter g vs) w) (hd:o.dst=some d) (hdn:d < n) (hs:scalarR P fn.resultTypes.toList=true)
  (hk:SemAt P B g as [] fun rs h'=>backR (envP P n gives C) d fn.resultTypes.toList rs 0 s h' fun vs s3=>K (s3.put d (one vs))):OpOk P B n F ρ s T o a w K:=by
 intro next Q hnx
 simp only [Oper.wp,hrun,Oper.upon]
 obtain ⟨F1,hR1,hF1⟩:=hR.freezeL (uniq (skeys.skeysC args) [])
 have heq:=fun k=>look_freezeL (uniq (skeys.skeysC args) []) s k
 obtain ⟨l1,l2⟩:=handC_ok (ks:=[]) hR1.hr heq args (fun k hk=>by rw [uniq_mem]; exact .inl hk) has
 have hh:HR w F1 (handRho ρ []) []:=⟨fun k x h=>by simp [look] at h,fun k x g o h=>by simp [look] at h,fun k k' x x' g o h=>by simp [look] at h,hR1.hr.fin⟩
 refine Calls.mono (hk w F1 (handRho ρ []) vs ⟨hR1.fr.size,hR1.fr.same,hR1.fr.fup⟩ (l1.trans hl) (fun i v c hv hc=>?_) hh) fun e w' hr=>?_
 ·have hi:i < args.length:=by rw [← l1]; exact (List.getElem?_eq_some_iff.1 hv).1
  exact l2 i args[i] v c (List.getElem?_eq_getElem hi) hv ((hargs i _ c (List.getElem?_eq_getElem hi) hc).mono hF1 (fun _ _ _ _ h=>h) (fun _ _=>agree.refl _))
 ·obtain ⟨c,rs,h',F',ρ',rfl,hv,hb,hk⟩:=hr
  simp only
  have hno:∀ g p,¬ OwnH (handRho ρ []) [] g p:=fun g p ⟨k,x,h,_⟩=>by simp [look] at h
  have hg:Grows w w':=⟨hb.size,fun g hlt=>hb.same g hlt (hno g),hb.frz.1⟩
  obtain ⟨cf,c1,c2⟩:=one_ok hv
  obtain ⟨us,q1,q2,q3⟩:=backR_scalar d _ rs cf 0 s h' _ hs c1 hk
  rw [hd]
  exact hnx _ F ρ _ w' ((hR.grow hg).put hdn (c2 F ρ us q2 fun i v hi=>q3 i v hi _ _ _)) ((Kept.grow hg).put d _) q1
theorem isC0_inv {v:V} (h:isC0 v=true):∃ u,v = .c u:=by
 cases v <;> first | exact ⟨_,rfl⟩ | cases h
mutual
theorem VR.clean {cl:Cl} {F1 F2:Fz}:∀ (v:V) {c:Value},cleanV v=true→VR cl F1 ρ v c→VR cl F2 ρ v c
 | .c _,d,_,h=>h.plainC ⟨_,rfl⟩
 | .sl es fl xs,d,hc,h=>by
  have:xs=[]:=by simpa [cleanV] using hc
  subst this
  cases h with
  | @sl _ _ _ ad m cap g p cf hn hcap hf ha hw hF hv=>exact .sl (g:=g) (p:=p) cf hn hcap hf ha (fun i x h=>by simp at h) (fun i x j h=>by simp at h) (fun i x j y h=>by simp at h)
 | .sla _ _,d,_,h=>by
  cases h with
  | sla hv h'=>exact .sla hv h'
 | .ptr _ _,d,_,h=>by cases h; exact .ptr
 | .agg cs,d,hc,h=>by
  cases h with
  | agg hn hk h'=>exact .agg hn hk fun i v c' hv hc'=>VR.cleanC cs (by simpa [cleanV] using hc) i v hv c' (h' i v c' hv hc')
 | .slm ..,d,hc,_ | .pe ..,d,hc,_ | .ep ..,d,hc,_ | .ag _,d,hc,_ | .tup _,d,hc,_ | .fn ..,d,hc,_ | .mp _,d,hc,_ | .it _,d,hc,_ | .bad,d,hc,_=>by simp [cleanV] at hc
theorem VR.cleanC {cl:Cl} {F1 F2:Fz}:∀ (cs:List V),cleanV.cleanC cs=true→∀ (i:Nat) (v:V),cs[i]? = some v→∀ c,VR cl F1 ρ v c→VR cl F2 ρ v c
 | [],_,i,v,hv,_,_=>by simp at hv
 | u :: r,h,i,v,hv,d,hc=>by
  simp only [cleanV.cleanC,Bool.and_eq_true] at h
  cases i with
  | zero=>simp at hv; subst hv; exact VR.clean u h.1 hc
  | succ i=>simp at hv; exact VR.cleanC r h.2 i v hv d hc
end
theorem SR.clean {F1 F2:Fz} {k:Nat} {x:Slot} (h:SR w F1 ρ k x) (hx:(∃ kds cs,x = .cells kds cs∧cleanV.cleanC cs=true)∨∃ es xs own frz ver,x = .arr es xs own frz ver∧((!frz || xs.isEmpty) && plainL xs)=true):SR w F2 ρ k x:=by
 rcases hx with ⟨kds,cs,rfl,hc⟩ | ⟨es,xs,own,frz,ver,rfl,hc⟩
 ·intro i v hv
  obtain ⟨c,c1,c2,c3⟩:=h i v hv
  exact ⟨c,c1,c2,VR.cleanC cs hc i v hv c c3⟩
 ·simp only [Bool.and_eq_true,Bool.or_eq_true,Bool.not_eq_true'] at hc
  obtain ⟨h1,h2,h3,h4,h5,h6,h7⟩:=h
  refine ⟨h1,h2,h3,h4,h5,fun i x j hx hj=>?_,h7⟩
  obtain ⟨c,c1,c2,c3,c4⟩:=h6 i x j hx hj
  refine ⟨c,c1,c2,fun y hy=>(c3 y hy).plainC ?_,fun hf=>?_⟩
  ·have:=List.all_eq_true.1 hc.2 x (List.mem_of_getElem? hx)
   exact isC0_inv (List.all_eq_true.1 this y (List.mem_of_getElem? hy))
  ·rcases hc.1 with q | q
   ·rw [hf] at q; cases q
   ·have:xs=[]:=by simpa using q
    subst this; simp at hx
theorem cleanH_inv:∀ (h:List (Nat×Slot)) {Q:Prop},cleanH (envP P n gives C) h Q→Q∧∀ k x,look k h=some x→(∃ kds cs,x = .cells kds cs∧cleanV.cleanC cs=true)∨∃ es xs own frz ver,x = .arr es xs own frz ver∧((!frz || xs.isEmpty) && plainL xs)=true
 | [],Q,hq=>⟨hq,fun k x h=>by simp [look] at h⟩
 |(j,.cells kds cs) :: r,Q,hq=>by
  simp only [cleanH] at hq
  obtain ⟨hb,hq⟩:=cond_inv hq
  obtain ⟨h1,h2⟩:=cleanH_inv r hq
  refine ⟨h1,fun k x hl=>?_⟩
  rw [look_cons] at hl
  split at hl
  ·cases hl; exact .inl ⟨kds,cs,rfl,hb⟩
  ·exact h2 k x hl
 |(j,.arr es xs own frz ver) :: r,Q,hq=>by
  simp only [cleanH] at hq
  obtain ⟨hb,hq⟩:=ite_inv hq
  obtain ⟨h1,h2⟩:=cleanH_inv r hq
  refine ⟨h1,fun k x hl=>?_⟩
  rw [look_cons] at hl
  split at hl
  ·cases hl; exact .inr ⟨es,xs,own,frz,ver,rfl,hb⟩
  ·exact h2 k x hl
 |(_,.refs _) :: _,Q,hq=>hq.elim
 |(_,.map _) :: _,Q,hq=>hq.elim
 |(_,.iter _ _) :: _,Q,hq=>hq.elim
theorem call_clean {g:FuncId} {fn:Func} {vs:Array Value} {as args:List V} {d:Nat} (hR:RelF B n F ρ s a w)
  (hl:args.length=vs.size) (hargs:∀ (i:Nat) (v:V) (c:Value),args[i]? = some v→vs[i]? = some c→VR (clOf w) F ρ v c) (has:handV.handC (freezeL s (uniq (skeys.skeysC args) [])).hp [] args=some as)
  (hrun:(execOp a.eval o).run P w = .ok (.enter g vs) w) (hd:o.dst=some d) (hdn:d < n)
  (hk:SemAt P B g as [] fun rs h'=>bif cleanV.cleanC rs then cleanH (envP P n gives C) h' (backR (envP P n gives C) d fn.resultTypes.toList rs 0 s h' fun vs s3=>K (s3.put d (one vs))) else False)
  (hTd:∀ k,inD d k=true→T k):OpOk P B n F ρ s T o a w K:=by
 intro next Q hnx
 simp only [Oper.wp,hrun,Oper.upon]
 obtain ⟨F1,hR1,hF1⟩:=hR.freezeL (uniq (skeys.skeysC args) [])
 have heq:=fun k=>look_freezeL (uniq (skeys.skeysC args) []) s k
 have heq1:∀ k,look k (freezeL s (uniq (skeys.skeysC args) [])).hp=(look k (freezeL s (uniq (skeys.skeysC args) [])).hp).map (froz (uniq (skeys.skeysC args) []) k):=fun k=>by
  rw [heq k,Option.map_map]
  congr 1
  funext x
  cases x <;> simp [froz]
 obtain ⟨l1,l2⟩:=handC_ok (ks:=[]) hR1.hr heq1 args (fun k hk=>by rw [uniq_mem]; exact .inl hk) has
 have hh:HR w F1 (handRho ρ []) []:=⟨fun k x h=>by simp [look] at h,fun k x g o h=>by simp [look] at h,fun k k' x x' g o h=>by simp [look] at h,hR1.hr.fin⟩
 refine Calls.mono (hk w F1 (handRho ρ []) vs ⟨hR1.fr.size,hR1.fr.same,hR1.fr.fup⟩ (l1.trans hl) (fun i v c hv hc=>?_) hh) fun e w' hr=>?_
 ·have hi:i < args.length:=by rw [← l1]; exact (List.getElem?_eq_some_iff.1 hv).1
  exact l2 i args[i] v c (List.getElem?_eq_getElem hi) hv ((hargs i _ c (List.getElem?_eq_getElem hi) hc).mono hF1 (fun _ _ _ _ h=>h) (fun _ _=>agree.refl _))
 ·obtain ⟨c,rs,h',F',ρ',rfl,hv,hb,hk⟩:=hr
  simp only
  obtain ⟨hcl,hk⟩:=cond_inv hk
  obtain ⟨hk,hcs⟩:=cleanH_inv h' hk
  have hno:∀ g p,¬ OwnH (handRho ρ []) [] g p:=fun g p ⟨k,x,h,_⟩=>by simp [look] at h
  have hFF:∀ g p,F g p→F' g p:=fun g p hf=>hb.fup g p (hF1 g p hf)
  have hb2:Back w F (handRho ρ []) [] w' F ρ' h' :=
   ⟨⟨fun k x hl=>(hb.hr.sr k x hl).clean (hcs k x hl),fun k x g p hl ho=>by
     obtain ⟨q1,q2,q3⟩:=hb.hr.free k x g p hl ho
     exact ⟨fun hf=>q1 (hFF g p hf),q2,q3⟩,hb.hr.apart,fun g p hf=>hb.hr.fin g p (hFF g p hf)⟩,
    hb.size,hb.same,hb.cell,hb.owned,fun _ _ h=>h,fun _ _ h _=>.inl h,hb.keep,hb.frz⟩
  have hi:=Imp.start (ks:=[]) hR rfl rfl hb2
  obtain ⟨cf,c1,c2⟩:=one_ok hv
  obtain ⟨us,s3,ρ3,q1,q2,q3,q4,q5,q6,q7⟩:=backR_ok d _ rs cf 0 s h' _ ρ hi (fun i v hv=>VR.cleanC rs hcl i v hv _ (c1 i v hv)) hk
  have hR3:=q2.put hdn (c2 F ρ3 us q3 q4)
  rw [hd]
  refine hnx _ F ρ3 _ w' hR3 (Kept.put ⟨fun _ _ h=>h,hb.size,fun g p hlt _=>hb.cell g p hlt (hno g p),fun k x g p hnT hl ho=>.inr ?_⟩ d _) q1
  obtain ⟨x3,f1,f2⟩:=q7 k x (fun hm=>hnT (hTd k hm)) hl
  exact ⟨x3,f1,f2 g p ho⟩
theorem run_enter {c:Call} {f:Operand} {g:FuncId} {fn:Func} {xs ys:Array Value} (ho:o.op = .call c) (hc:c.callee = .value f) (hf:a.eval f = .func (.func g) xs ys) (hg:P.funcs[g]? = some fn)
  (hb:fn.body.isSome=true) (hn:(fn.name != "runtime.NumGoroutine")=true):(execOp a.eval o).run P w = .ok (.enter g (xs++c.args.map a.eval++ys)) w:=by
 have hn':¬ fn.name = "runtime.NumGoroutine":=by simpa using hn
 cases hbb:fn.body with
 | none=>rw [hbb] at hb; cases hb
 | some b=>simp [execOp,ho,resolve,hc,hf,Deferred.ofValue,invoke,callFunc,run_program,hg,hn',hbb]
theorem ok_callF (hC:Sound P B C) {c:Call} {f:Operand} (ho:o.op = .call c) (hc:c.callee = .value f) (hR:RelF B n F ρ s a w)
  (hT:∀ g x y,s.ev f = .fn (.func g) x y→∀ k∈order s.hp (reach s.hp (uniq (pkeys.pkeysC (x++c.args.toList.map s.ev++y)++bif gives g then skeys.skeysC (x++c.args.toList.map s.ev++y) else []) [])),T k)
  (hTd:∀ d,o.dst=some d→∀ k,inD d k=true→T k)
  (hk:callFC (envP P n gives C) o (s.ev f) (c.args.toList.map s.ev) s K):OpOk P B n F ρ s T o a w K:=by
 unfold callFC at hk
 split at hk
 case h_2=>exact hk.elim
 rename_i g x y hf
 have hT':=hT g x y hf
 have ef:=hR.ev f
 rw [hf] at ef
 generalize hcf:a.eval f=cf at ef
 cases ef with
 | @fn _ _ _ xs ys hnx hny hx hy =>
 obtain ⟨m1,m2⟩:=mapEv hR c.args
 generalize hargs:x++c.args.toList.map s.ev++y=args at *
 have hal:args.length=(xs++c.args.map a.eval++ys).size:=by
  rw [← hargs]; simp only [List.length_append,Array.size_append,hnx,hny,m1]
 have hav:∀ (i:Nat) (v:V) (c':Value),args[i]? = some v→(xs++c.args.map a.eval++ys)[i]? = some c'→VR (clOf w) F ρ v c':=by
  intro i v c' hv hc'
  rw [← hargs] at hv
  rw [List.getElem?_append] at hv
  rw [Array.getElem?_append] at hc'
  simp only [List.length_append,Array.size_append,hnx,m1] at hv hc'
  split at hv
  ·rename_i h1
   rw [if_pos h1] at hc'
   rw [List.getElem?_append] at hv
   rw [Array.getElem?_append] at hc'
   simp only [hnx] at hv
   split at hv
   ·rename_i h2; rw [if_pos h2] at hc'; exact hx i v c' hv hc'
   ·rename_i h2; rw [if_neg h2] at hc'; exact m2 _ v c' hv hc'
  ·rename_i h1
   rw [if_neg h1] at hc'
   exact hy _ v c' hv hc'
 unfold callC at hk
 split at hk
 case h_2=>exact hk.elim
 rename_i d fn hd hg
 have hg:P.funcs[g]? = some fn:=hg
 simp only at hk
 split at hk
 case h_2=>exact hk.elim
 rename_i as h has hh
 obtain ⟨hb,hk⟩:=cond_inv hk
 simp only [Bool.and_eq_true,Bool.not_eq_true'] at hb
 obtain ⟨⟨⟨⟨⟨b1,b2⟩,b3⟩,b4⟩,b5⟩,b6⟩:=hb
 have b1:d < n:=Nat.le_of_ble_eq_true b1
 have hrun:=run_enter (P:=P) (w:=w) ho hc hcf hg b5 b6
 have hTd':=hTd d hd
 have hgv:(envP P n gives C).gives g=gives g:=rfl
 simp only [hgv] at has hh hk b2 b3 b4
 cases hgi:gives g with
 | true =>
  simp only [hgi,cond_true,Bool.true_or,Bool.not_true,Bool.and_false,cond_false] at has hh hk b2 b3 b4 hT'
  obtain ⟨l1,l2⟩:=rowC_ok hR.hr args has
  refine call_core (fn:=fn) hR b2 hh (l1.trans hal) (fun i v c' hv hc'=>?_) hrun hd b1 b3 (Nat.le_of_ble_eq_true b4) (hC.call _ _ _ _ hk) hT' hTd'
  have hi:i < args.length:=by rw [← l1]; exact (List.getElem?_eq_some_iff.1 hv).1
  exact l2 i args[i] v c' (List.getElem?_eq_getElem hi) hv (hav i _ c' (List.getElem?_eq_getElem hi) hc')
 | false =>
  simp only [hgi,cond_false,Bool.false_or,List.append_nil] at has hh hk b2 b3 b4 hT'
  generalize hks:order s.hp (reach s.hp (uniq (pkeys.pkeysC args) []))=ks at *
  have hgc:(envP P n gives C).gives (cleanN g)=gives (cleanN g):=rfl
  simp only [hgc] at hk
  cases hsc:(ks.isEmpty && scalarR P fn.resultTypes.toList) with
  | true =>
   have hsc':(ks.isEmpty && scalarR (envP P n gives C).P fn.resultTypes.toList)=true:=hsc
   simp only [hsc',cond_true] at has hh hk
   simp only [Bool.and_eq_true,List.isEmpty_iff] at hsc
   obtain ⟨hke,hsr⟩:=hsc
   subst hke
   cases hh
   simp only [hsc',Bool.not_true,Bool.and_false,cond_false] at hk
   exact call_scalar (fn:=fn) hR hal hav has hrun hd b1 hsr (hC.call _ _ _ _ hk)
  | false =>
   have hsc':(ks.isEmpty && scalarR (envP P n gives C).P fn.resultTypes.toList)=false:=hsc
   simp only [hsc',cond_false,Bool.not_false,Bool.and_true] at has hh hk
   cases hcn:gives (cleanN g) && ks.isEmpty with
   | true =>
    rw [hcn] at hk
    simp only [cond_true] at hk
    simp only [Bool.and_eq_true,List.isEmpty_iff] at hcn
    obtain ⟨_,hke⟩:=hcn
    subst hke
    cases hh
    exact call_clean (fn:=fn) hR hal hav has hrun hd b1 (hC.call _ _ _ _ hk) hTd'
   | false =>
   rw [hcn] at hk
   simp only [cond_false] at hk
   obtain ⟨F1,hR1,hF1⟩:=hR.freezeL (uniq (skeys.skeysC args) [])
   have heq:=fun k=>look_freezeL (uniq (skeys.skeysC args) []) s k
   generalize hs1:freezeL s (uniq (skeys.skeysC args) [])=s1 at *
   have heq1:∀ k,look k s1.hp=(look k s1.hp).map (froz (uniq (skeys.skeysC args) []) k):=fun k=>by
    rw [heq k,Option.map_map]
    congr 1
    funext x
    cases x <;> simp [froz]
   obtain ⟨l1,l2⟩:=handC_ok (ks:=ks) hR1.hr heq1 args (fun k hk=>by rw [uniq_mem]; exact .inl hk) has
   have core:OpOk P B n F1 ρ s1 T o a w K:=call_core (fn:=fn) hR1 b2 hh (l1.trans hal) (fun i v c' hv hc'=>by
    have hi:i < args.length:=by rw [← l1]; exact (List.getElem?_eq_some_iff.1 hv).1
    exact l2 i args[i] v c' (List.getElem?_eq_getElem hi) hv ((hav i _ c' (List.getElem?_eq_getElem hi) hc').mono hF1 (fun _ _ _ _ h=>h) (fun _ _=>agree.refl _)))
    hrun hd b1 b3 (Nat.le_of_ble_eq_true b4) (hC.call _ _ _ _ hk) hT' hTd'
   exact fun next Q hnx=>core next Q fun s' F' ρ' a' w' r1 r2 r3=>hnx s' F' ρ' a' w' r1 (.pre hF1 (hR1.froz1 heq) (hR.froz2 hR1 heq) r2) r3
end
end Go.Proofs.YtdjldmolhkkipaaGreatDoor.Eng
end
section
set_option linter.unusedVariables false
set_option linter.unusedSimpArgs false
namespace Go.Proofs.YtdjldmolhkkipaaGreatDoor.Eng
open Go Go.Lib
theorem mpGet_spec (u:ByteArray) (z:V):∀ (kvs:List (Value×V)) (L:List MapEntry) (i:Nat) (r:Option V),L.length=kvs.length →
  (∀ (j:Nat) (p:Value×V) (e:MapEntry),kvs[j]? = some p→L[j]? = some e→e.key=p.1)→mpGet u kvs=some r →
  (r=none∧Instr.findNow .string (.string u) L i=some none∧mpPut u z kvs=kvs++[(.string u,z)]) ∨
  ∃ v j e,r=some v∧Instr.findNow .string (.string u) L i=some (some (i+j,e.val))∧L[j]? = some e∧kvs[j]? = some (.string u,v)∧mpPut u z kvs=kvs.set j (.string u,z)
 | [],L,i,r,hl,hk,h=>by
  cases L with
  | cons e L=>simp at hl
  | nil =>
   simp only [mpGet,Option.some.injEq] at h
   exact .inl ⟨h.symm,rfl,rfl⟩
 |(k,v) :: kvs,L,i,r,hl,hk,h=>by
  cases L with
  | nil=>simp at hl
  | cons e L =>
   have hek:e.key=k:=hk 0 (k,v) e rfl rfl
   cases k with
   | string t =>
    simp only [mpGet] at h
    cases hb:(u == t)
    ·rw [hb] at h
     simp only [cond_false] at h
     have hs:Instr.sameNow .string (.string u) e.key=some false:=by rw [hek]; simp [Instr.sameNow,hb]
     rcases mpGet_spec u z kvs L (i+1) r (by simpa using hl) (fun j p e' hp he=>hk (j+1) p e' (by simpa using hp) (by simpa using he)) h with ⟨h1,h2,h3⟩ | ⟨v',j,e',h1,h2,h3,h4,h5⟩
     ·exact .inl ⟨h1,by simp [Instr.findNow,hs,h2],by simp [mpPut,hb,h3]⟩
     ·exact .inr ⟨v',j+1,e',h1,by simp [Instr.findNow,hs,h2]; omega,by simpa using h3,by simpa using h4,by simp [mpPut,hb,h5]⟩
    ·rw [hb] at h
     simp only [cond_true,Option.some.injEq] at h
     have e0:u=t:=(MapKept.bytes_beq u t).1 hb
     have hs:Instr.sameNow .string (.string u) e.key=some true:=by rw [hek]; simp [Instr.sameNow,hb]
     exact .inr ⟨v,0,e,h.symm,by simp [Instr.findNow,hs],rfl,by simp [e0],by simp [mpPut,hb]; rw [e0]⟩
   | _=>simp [mpGet] at h
section
variable {P:Program} {gives:FuncId→Bool} {C:CL}
variable {B:Base} {n:Nat} {F F':Fz} {ρ ρ':Rho} {s:S} {a:Act} {w w':World} {o:Oper} {K:S→Prop} {T:Nat→Prop}
theorem isMapSI_inv {t:TypeId} {q:IntKind} (h:isMapSI P t=some q):∃ kt et,P.underlying t=some (.map kt et)∧P.underlying kt=some .string∧P.underlying et=some (.int q)∧∀ w,(zeroValue et).run P w = .ok (.int q 0) w:=by
 unfold isMapSI at h
 split at h
 case h_2=>cases h
 rename_i kt et ht
 split at h
 case h_2=>cases h
 rename_i q1 q2 h1 h2 h3
 split at h
 case isFalse=>cases h
 rename_i e
 cases h
 subst e
 obtain ⟨i,zv,_,_,hz,hrun⟩:=zeroV_run h3
 have:zv = .int q2 0:=by
  unfold ofVal at hz
  split at hz
  ·simp only [cond] at hz
   split at hz <;> cases hz
  ·unfold ofCell at hz
   split at hz
   ·cases hz
   ·cases hz
   ·cases hz
   ·cases hz; rfl
 subst this
 exact ⟨kt,et,ht,h1,h2,hrun⟩
theorem ok_makeMap {t:TypeId} {r:Option Operand} (ho:o.op = .makeMap t r) (hR:RelF B n F ρ s a w) (hT:TD T o) (hk:makeMapC (envP P n gives C) o (r.map s.ev) s K):OpOk P B n F ρ s T o a w K:=by
 cases r with
 | some x=>exact hk.elim
 | none =>
  have hk:fresh (envP P n gives C) o s (.map []) (fun k=>.mp k) K:=hk
  refine okFresh (c:=.map (some w.heap.size)) (l:=⟨w.heap.size,0,0,0,0,0,0⟩) (w':=w.alloc (.map #[] 0)) hT hk ?_ (fun k hkk h64=>hR.bindNew _ k _ _ ?_ (fun g p ho=>?_) (fun p hp=>?_) h64) (.alloc _ _) (fun k=>?_)
  ·have hm:(Instr.makeMap t none).run P w = .ok (.map (some w.heap.size)) (w.alloc (.map #[] 0)):=rfl
   simp [execOp,ho,hm]
  ·simp only [SR,upd_same]
   exact ⟨#[],0,heap_alloc_new w _,rfl,fun i p e h=>by simp at h⟩
  ·simp only [owns,upd_same] at ho; exact ho
  ·simp only [World.frozen?,show (w.alloc (.map #[] 0)).heap[w.heap.size]? = some (.map #[] 0) from heap_alloc_new w _] at hp
   cases hp
  ·have:=VR.mp (cl:=clOf (w.alloc (.map #[] 0))) (F:=F) (ρ:=upd ρ k ⟨w.heap.size,0,0,0,0,0,0⟩) (k:=k)
   rwa [upd_same] at this
theorem ok_lookup {t:TypeId} {x y:Operand} {ok:Bool} (ho:o.op = .lookup t x y ok) (hR:RelF B n F ρ s a w) (hk:lookupC (envP P n gives C) o t (s.ev x) (s.ev y) ok s K):OpOk P B n F ρ s T o a w K:=by
 unfold lookupC at hk
 split at hk
 case h_2=>exact hk.elim
 rename_i q k u hq hx hy
 split at hk
 case h_2=>exact hk.elim
 rename_i kvs hl
 obtain ⟨kt,et,t1,t2,t3,t4⟩:=isMapSI_inv (P:=P) hq
 obtain ⟨es,m,h1,h2,h3⟩:=hR.hr.sr k _ hl
 have ex:=hR.ev x
 rw [hx] at ex
 generalize hcx:a.eval x=cx at ex
 cases ex
 have hcy:a.eval y = .string u:=mapEvC hR hy
 have hkey:MapKept.IsKey .string (.string u):=trivial
 cases hg:mpGet u kvs with
 | none=>rw [hg] at hk; exact hk.elim
 | some r =>
  rw [hg] at hk
  rcases mpGet_spec u (.bad) kvs es.toList 0 r (by simpa using h2) (fun j p e hp he=>(h3 j p e hp (by simpa using he)).1) hg with ⟨e1,e2,_⟩ | ⟨v,j,e,e1,e2,e3,e4,_⟩
  ·subst e1
   have hk:fin (envP P n gives C) o s (bif ok then .tup [.c (.int q 0),.c (.bool false)] else .c (.int q 0)) K:=hk
   refine okVal (c:=if ok then .tuple #[.int q 0,.bool false] else .int q 0) hk ?_ hR ?_
   ·cases ok <;> simp [execOp,ho,hcx,hcy,Instr.lookup,run_underlying t1,MapKept.run_getObj_map h1,MapKept.run_checkKey t2 hkey,MapKept.run_findKey t2 e2,t4,Result.andThen]
   ·cases ok
    ·exact .c rfl
    ·refine .tup rfl fun i u d hu hd=>?_
     match i,hu,hd with
     | 0,hu,hd=>simp at hu hd; subst hu; subst hd; exact .c rfl
     | 1,hu,hd=>simp at hu hd; subst hu; subst hd; exact .c rfl
     | i+2,hu,hd=>simp at hu
  ·subst e1
   have hv:=(h3 j _ e e4 (by simpa using e3)).2.1
   simp only [asMpI] at hk
   split at hk
   ·rename_i k' i' hi
    simp only [Option.some.injEq] at hi
    subst hi
    have hk2:=ite_inv hk
    clear hk
    obtain ⟨hq',hk⟩:=hk2
    subst hq'
    have hval:e.val = .int q i':=hv.c_inv
    refine okVal (c:=if ok then .tuple #[.int q i',.bool true] else .int q i') hk ?_ hR ?_
    ·cases ok <;> simp [execOp,ho,hcx,hcy,Instr.lookup,run_underlying t1,MapKept.run_getObj_map h1,MapKept.run_checkKey t2 hkey,MapKept.run_findKey t2 e2,hval,Result.andThen]
    ·cases ok
     ·exact .c rfl
     ·refine .tup rfl fun i u d hu hd=>?_
      match i,hu,hd with
      | 0,hu,hd=>simp at hu hd; subst hu; subst hd; exact .c rfl
      | 1,hu,hd=>simp at hu hd; subst hu; subst hd; exact .c rfl
      | i+2,hu,hd=>simp at hu
   ·rename_i hi; simp at hi
   ·exact hk.elim
theorem ok_mapUpdate {t:TypeId} {x y z:Operand} (ho:o.op = .mapUpdate t x y z) (hR:RelF B n F ρ s a w) (hTk:∀ k,s.ev x = .mp k→T k) (hk:mapUpdateC (envP P n gives C) o t (s.ev x) (s.ev y) (s.ev z) s K):OpOk P B n F ρ s T o a w K:=by
 unfold mapUpdateC at hk
 split at hk
 case h_2=>exact hk.elim
 rename_i q0 k u q i' hq hx hy hz
 split at hk
 case h_2=>exact hk.elim
 rename_i kvs hl
 obtain ⟨hd,hk⟩:=cond_inv hk
 obtain ⟨hs,hk⟩:=ite_inv hk
 have hd:o.dst=none:=by
  cases h:o.dst with
  | none=>rfl
  | some d=>rw [h] at hd; cases hd
 obtain ⟨kt,et,t1,t2,t3,t4⟩:=isMapSI_inv (P:=P) hq
 obtain ⟨es,m,h1,h2,h3⟩:=hR.hr.sr k _ hl
 have ex:=hR.ev x
 rw [hx] at ex
 generalize hcx:a.eval x=cx at ex
 cases ex
 have hcy:a.eval y = .string u:=mapEvC hR hy
 have hcz:a.eval z = .int q i':=mapEvC hR hz
 have hkey:MapKept.IsKey .string (.string u):=trivial
 have hlt:(ρ k).blk < w.heap.size:=(Array.getElem?_eq_some_iff.1 h1).1
 have done:∀ (es':Array MapEntry) (m':Nat) (hrun:(execOp a.eval o).run P w = .ok .skip { w with heap:=w.heap.setIfInBounds (ρ k).blk (.map es' m') })
   (hs':es'.size=(mpPut u (.c (.int q i')) kvs).length) (he:∀ (j:Nat) (p:Value×V) (e:MapEntry),(mpPut u (.c (.int q i')) kvs)[j]? = some p→es'[j]? = some e→(∃ e0:MapEntry,kvs[j]? = some p∧es[j]? = some e0∧e0=e)∨(p=(.string u,.c (.int q i'))∧e.key = .string u∧e.val = .int q i')),
   OpOk P B n F ρ s T o a w K:=fun es' m' hrun hs' he=>by
  have hh:∀ g,g≠(ρ k).blk→(w.heap.setIfInBounds (ρ k).blk (.map es' m'))[g]? = w.heap[g]?:=fun g hg=>by simp [Ne.symm hg]
  have hh':(w.heap.setIfInBounds (ρ k).blk (.map es' m'))[(ρ k).blk]? = some (.map es' m'):=by simp [hlt]
  have hcl:∀ g p,clOf { w with heap:=w.heap.setIfInBounds (ρ k).blk (.map es' m') } g p=clOf w g p:=fun g p=>by
   by_cases hg:g=(ρ k).blk
   ·subst hg; simp only [clOf,World.cell?,hh',h1]
   ·simp only [clOf,World.cell?,hh g hg]
  have hcl':clOf { w with heap:=w.heap.setIfInBounds (ρ k).blk (.map es' m') } = clOf w:=by funext g p; exact hcl g p
  refine okSkip (F':=F) (ρ':=upd ρ k (ρ k)) (s':=s.upd k (.map (mpPut u (.c (.int q i')) kvs))) hd hk hrun
   (hR.turn hl _ (ρ k) F _ w.heap.size (agree.refl _) (by simp) (fun g q hno=>hcl g q) ⟨⟨rfl,rfl,rfl⟩,fun g q=>?_⟩ (fun g hno=>hh g fun e=>hno 0 (show g=(ρ k).blk from e)) hR.fr.size
    (fun q hf=>Nat.lt_irrefl _ (hR.hr.fin _ _ hf)) (fun j y' q hy' ho'=>Nat.lt_irrefl _ (hR.hr.free j y' _ q hy' ho').2.2) (fun _ _ h=>h) (fun _ _ h=>.inl h) ?_ (fun q p' hw=>?_)) (.turn (hTk k hx) hl (fun _ _ h=>h) (by simp) fun g q _ hno=>hcl g q)
  ·by_cases hg:g=(ρ k).blk
   ·subst hg
    simp only [World.frozen?,hh',h1]
   ·simp only [World.frozen?,hh g hg]
  ·rw [upd_self]
   refine ⟨es',m',hh',hs',fun j p e hp hej=>?_⟩
   rcases he j p e hp hej with ⟨e0,g1,g2,g3⟩ | ⟨rfl,g2,g3⟩
   ·subst g3
    rw [hcl']
    exact h3 j p e0 g1 g2
   ·rw [g3]
    exact ⟨g2,.c rfl,rfl,rfl⟩
  ·rw [upd_self] at hw
   have hw':owns ρ k (.map kvs) q p':=hw
   exact ⟨fun hf=>(hR.hr.free k _ _ _ hl hw').1 hf,.inl hw'⟩
 cases hg:mpGet u kvs with
 | none=>rw [hg] at hs; cases hs
 | some r =>
  rcases mpGet_spec u (.c (.int q i')) kvs es.toList 0 r (by simpa using h2) (fun j p e hp he=>(h3 j p e hp (by simpa using he)).1) hg with ⟨e1,e2,e5⟩ | ⟨v,j,e,e1,e2,e3,e4,e5⟩
  ·refine done (es.push { key:=.string u,val:=.int q i',born:=m }) (m+1) ?_ (by rw [e5]; simp [h2]) fun j p e hp he=>?_
   ·simp [execOp,ho,hcx,hcy,hcz,Instr.mapUpdate,run_underlying t1,MapKept.run_getObj_map h1,MapKept.run_checkKey t2 hkey,MapKept.run_findKey t2 e2,MapKept.run_setObj_map _ h1,Result.andThen]
   ·rw [e5] at hp
    by_cases hj:j < kvs.length
    ·rw [List.getElem?_append_left hj] at hp
     rw [Array.getElem?_push,if_neg (by omega)] at he
     exact .inl ⟨e,hp,he,rfl⟩
    ·rw [List.getElem?_append_right (by omega)] at hp
     have hj':j=kvs.length:=by
      have:=(List.getElem?_eq_some_iff.1 hp).1
      simp at this; omega
     subst hj'
     rw [Array.getElem?_push,if_pos h2.symm] at he
     simp at hp he
     exact .inr ⟨hp.symm,by rw [← he],by rw [← he]⟩
  ·have hj:es[j]? = some e:=by simpa using e3
   have hek:e.key = .string u:=(h3 j _ e e4 hj).1
   refine done (es.modify j fun e=>{ e with key:=.string u,val:=.int q i' }) m ?_ (by rw [e5]; simp [h2]) fun j' p e' hp he=>?_
   ·simp [execOp,ho,hcx,hcy,hcz,Instr.mapUpdate,run_underlying t1,MapKept.run_getObj_map h1,MapKept.run_checkKey t2 hkey,MapKept.run_findKey t2 e2,MapKept.run_setObj_map _ h1,hj,hek,MapKept.run_keyThatStays hkey,Result.andThen]
   ·rw [e5] at hp
    by_cases hjj:j'=j
    ·subst hjj
     rw [List.getElem?_set_self (List.getElem?_eq_some_iff.1 e4).1] at hp
     rw [Array.getElem?_modify,if_pos rfl,hj] at he
     simp at hp he
     exact .inr ⟨hp.symm,by rw [← he],by rw [← he]⟩
    ·rw [List.getElem?_set_ne (Ne.symm hjj)] at hp
     rw [Array.getElem?_modify,if_neg (Ne.symm hjj)] at he
     exact .inl ⟨e',hp,he,rfl⟩
end
end Go.Proofs.YtdjldmolhkkipaaGreatDoor.Eng
end
section
set_option linter.unusedVariables false
set_option linter.unusedSimpArgs false
namespace Go.Proofs.YtdjldmolhkkipaaGreatDoor.Eng
open Go Go.Lib
def Turns (gives:FuncId→Bool) (s:S) (o:Oper) (k:Nat):Prop:=(k,true)∈touch gives s o∨∃ d,o.dst=some d∧inD d k=true
section
variable {P:Program} {gives:FuncId→Bool} {C:CL}
variable {B:Base} {n:Nat} {F F':Fz} {ρ ρ':Rho} {s:S} {a:Act} {w w':World} {o:Oper} {K:S→Prop}
theorem Turns.td:TD (Turns gives s o) o:=fun d hd=>.inr ⟨d,hd,by
 simp only [inD,dkey,Bool.and_eq_true]
 exact ⟨Nat.ble_eq_true_of_le (by omega),Nat.ble_eq_true_of_le (by omega)⟩⟩
theorem op_ok (hC:Sound P B C) (hR:RelF B n F ρ s a w) (hk:opC (envP P n gives C) o s K):OpOk P B n F ρ s (Turns gives s o) o a w K:=by
 unfold opC at hk
 cases ho:o.op <;> simp only [ho] at hk <;> try exact hk.elim
 case move x=>exact (op_move ho hR hk).ok hR
 case assign x=>exact (op_assign ho hR hk).ok hR
 case pick c x y=>exact (op_pick ho hR hk).ok hR
 case alloc t=>exact ok_alloc ho hR Turns.td hk
 case box t x =>
  obtain ⟨hb,hk⟩:=cond_inv hk
  exact op_box ho hR hb Turns.td hk
 case build t ps=>exact ok_build ho hR hk
 case buildSlice t m ps=>exact ok_buildSlice ho hR Turns.td hk
 case load t x=>exact (op_load ho hR hk).ok hR
 case store t x y=>exact ok_store ho hR (fun k hk=>.inl (by simp only [touch,ho]; exact List.mem_map.2 ⟨k,hk,rfl⟩)) hk
 case nilCheck x=>exact (ok_nilCheck ho hR hk).ok hR
 case binOp op t x y u=>exact (ok_bin ho hR hk).ok hR
 case unOp u t x=>exact (ok_un ho hR hk).ok hR
 case convert src dst x=>exact ok_convert ho hR Turns.td hk
 case makeInterface t x=>exact (ok_makeInterface ho hR hk).ok hR
 case makeFunc f x y=>exact (op_makeFunc ho hR hk).ok hR
 case makeSlice t x y=>exact ok_makeSlice ho hR Turns.td hk
 case slice t x lo hi mx =>
  cases hm:litMx o with
  | true=>exact (op_slice ho hm hR hk).ok hR
  | false=>exact op_slice3 ho hm hR (fun k hk=>.inl (by simp only [touch,ho,hm,Bool.not_false]; exact List.mem_map.2 ⟨k,hk,rfl⟩)) hk
 case fieldAddr t x i=>exact (ok_fieldAddr ho hR hk).ok hR
 case field t x i=>exact (ok_field ho hR hk).ok hR
 case indexAddr t x y=>exact (ok_indexAddr ho hR hk).ok hR
 case index t x y=>exact (ok_index ho hR hk).ok hR
 case extract x i=>exact (ok_extract ho hR hk).ok hR
 case range t x=>exact ok_range ho hR Turns.td hk
 case next x b =>
  cases b with
  | false=>exact hk.elim
  | true=>exact ok_next ho hR (fun k hx=>.inl (by simp only [touch,ho,hx,pkey]; exact .head _)) hk
 case makeMap t r=>exact ok_makeMap ho hR Turns.td hk
 case lookup t x y ok=>exact ok_lookup ho hR hk
 case mapUpdate t x y z=>exact ok_mapUpdate ho hR (fun k hx=>.inl (by simp only [touch,ho,hx,pkeys]; exact .head _)) hk
 case typeAssert x xt at' ok=>exact (ok_typeAssert ho hR hk).ok hR
 case call c =>
  cases hc:c.callee with
  | value f =>
   simp only [hc] at hk
   refine ok_callF hC ho hc hR (fun g x y hf k hk=>.inl ?_) (fun d hd k hk=>.inr ⟨d,hd,hk⟩) hk
   simp only [touch,ho,hc,hf,List.mem_append]
   exact .inl (List.mem_map.2 ⟨k,hk,rfl⟩)
  | builtin b =>
   simp only [hc] at hk
   refine op_builtin ho hc hR Turns.td (fun x hx hb k hk'=>.inl ?_) hk
   rcases hb with rfl | rfl
   ·simp only [touch,ho,hc]
    unfold builtinC at hk
    split at hk
    ·exact hk.elim
    ·rename_i x' y' hxy
     rw [hxy] at hx
     simp only [List.head?_cons,Option.mem_def,Option.some.injEq] at hx
     subst hx
     have:∃ p q,c.args.toList=[p,q]∧s.ev p=x'∧s.ev q=y':=by
      match hl:c.args.toList,hxy with
      | [p,q],hxy=>simp at hxy; exact ⟨p,q,rfl,hxy.1,hxy.2⟩
     obtain ⟨p,q,e1,e2,e3⟩:=this
     simp only [e1,List.mem_append]
     exact .inl (List.mem_map.2 ⟨k,by rw [e2]; exact hk',rfl⟩)
    ·exact hk.elim
    ·exact hk.elim
   ·simp only [touch,ho,hc]
    refine List.mem_map.2 ⟨k,skeysC_mem (u:=x) ?_ hk',rfl⟩
    cases hl:c.args.toList.map s.ev with
    | nil=>rw [hl] at hx; cases hx
    | cons u r=>rw [hl] at hx; simp at hx; subst hx; exact .head _
  | invoke r m=>simp only [hc] at hk; exact hk.elim
theorem still_ok (hs:isStill P o=true) (hR:RelF B n F ρ s a w) (hk:opC (envP P n gives C) o s K):RdOk C P n gives F ρ s o a w K (rdKeys s o):=by
 unfold opC at hk
 unfold isStill at hs
 cases ho:o.op <;> simp only [ho] at hk hs <;> try (first | exact hk.elim | exact Bool.noConfusion hs)
 case move x=>exact (op_move ho hR hk).rd
 case assign x=>exact (op_assign ho hR hk).rd
 case pick c x y=>exact (op_pick ho hR hk).rd
 case load t x =>
  have:rdKeys s o=pkey (s.ev x):=by simp only [rdKeys,ho]
  rw [this]; exact op_load ho hR hk
 case nilCheck x=>exact (ok_nilCheck ho hR hk).rd
 case binOp op t x y u=>exact (ok_bin ho hR hk).rd
 case unOp u t x=>exact (ok_un ho hR hk).rd
 case convert src dst x =>
  unfold convertC at hk
  split at hk
  ·rename_i k i hx
   split at hk
   ·rename_i k' hd
    obtain ⟨hs,hk⟩:=cond_inv hk
    exact (op_convertInt ho hR hx hs hd hk).rd
   ·exact hk.elim
  ·rename_i v hx
   split at hk
   ·obtain ⟨hb,hk⟩:=cond_inv hk
    simp only [Bool.and_eq_true] at hb
    have:=isStr_some (P:=P) hb.1.2
    rw [this] at hs; simp at hs
   ·obtain ⟨hb,hk⟩:=cond_inv hk
    simp only [Bool.and_eq_true] at hb
    have:=isStr_some (P:=P) hb.2
    rw [this] at hs; simp at hs
  ·split at hk
   ·rename_i e xs he hc
    have:=isSlice_some (P:=P) he
    rw [this] at hs; simp at hs
   ·exact hk.elim
 case makeInterface t x=>exact (ok_makeInterface ho hR hk).rd
 case makeFunc f x y=>exact (op_makeFunc ho hR hk).rd
 case slice t x lo hi mx=>exact (op_slice ho hs hR hk).rd
 case fieldAddr t x i=>exact (ok_fieldAddr ho hR hk).rd
 case field t x i=>exact (ok_field ho hR hk).rd
 case indexAddr t x y=>exact (ok_indexAddr ho hR hk).rd
 case index t x y=>exact (ok_index ho hR hk).rd
 case extract x i=>exact (ok_extract ho hR hk).rd
 case typeAssert x xt at' ok=>exact (ok_typeAssert ho hR hk).rd
 case call c =>
  cases hc:c.callee with
  | value f=>rw [hc] at hs; simp at hs
  | invoke r m=>rw [hc] at hs; simp at hs
  | builtin b =>
   simp only [hc] at hk hs
   refine PurOk.rd ?_
   unfold builtinC at hk
   split at hk
   ·rename_i x hx
    obtain ⟨cx,h1,h2⟩:=args_one hR hx
    split at hk
    ·exact op_lenB ho hc h1 hR h2 hk
    ·simp at hs
    ·exact hk.elim
   ·rename_i x y hx
    obtain ⟨cx,cy,h1,h2,h3⟩:=args_two hR hx
    split at hk
    ·simp at hs
    ·simp at hs
    ·exact op_minB ho hc h1 hR h2 h3 hk
    ·exact op_maxB ho hc h1 hR h2 h3 hk
    ·exact hk.elim
   ·rename_i x y z hx
    obtain ⟨cx,cy,cz,h1,h2,h3,h4⟩:=args_three hR hx
    split at hk
    ·exact op_min3B ho hc h1 hR h2 h3 h4 hk
    ·exact hk.elim
   ·exact hk.elim
end
end Go.Proofs.YtdjldmolhkkipaaGreatDoor.Eng
end
section
set_option linter.unusedVariables false
set_option linter.unusedSimpArgs false
namespace Go.Proofs.YtdjldmolhkkipaaGreatDoor.Eng
open Go Go.Lib
section
variable {P:Program} {gives:FuncId→Bool} {C:CL}
variable {B:Base} {n:Nat} {F F':Fz} {ρ ρ':Rho} {s:S} {a:Act} {w w':World} {o:Oper} {K:S→Prop}
theorem RelF.reput (h:RelF B n F ρ s a w) {d:Nat} {v:V} (hv:VR (clOf w) F ρ v (a.tmps.getD d undef)):RelF B n F ρ (s.put d v) a w :=
 ⟨h.size,h.defers,fun t u hu=>by
  simp only [S.put,look_cons] at hu
  by_cases e:t=d
  ·subst e; simp only [if_true] at hu; cases hu; exact hv
  ·simp only [e,if_false] at hu; exact h.tm t u hu,h.hr,h.fr⟩
def StepOk (P:Program) (B:Base) (n:Nat) (ops:Array Oper) (o:Oper) (a:Act) (w:World) (K:S→Prop):Prop :=
 ∀ (next:Act→World→Prop) (Q:Exit→Act→World→Prop),(∀ s' F' ρ' a' w',RelF B n F' ρ' s' a' w'→K s'→next a' w') →
  if Region.wanted o (yielded ops a.tmps)=true then o.wp P a w next Q else next (a.put o.dst undef) w
theorem skip_ok (hR:RelF B n F ρ s a w) (hk:skip (envP P n gives C) o s K):∃ s',s'.hp=s.hp∧RelF B n F ρ s' (a.put o.dst undef) w∧K s':=by
 unfold skip at hk
 cases hd:o.dst with
 | none=>rw [hd] at hk; exact ⟨s,rfl,hR,hk⟩
 | some d =>
  rw [hd] at hk
  obtain ⟨hb,hk⟩:=cond_inv hk
  exact ⟨s.put d (.tup []),rfl,hR.put (Nat.le_of_ble_eq_true hb) (.tup rfl fun i v c hv=>by simp at hv),hk⟩
theorem fin_ok {v:V} {c:Value} (hR:RelF B n F ρ s a w) (hk:fin (envP P n gives C) o s v K) (hv:VR (clOf w) F ρ v c):∃ s',s'.hp=s.hp∧RelF B n F ρ s' (a.put o.dst c) w∧K s':=by
 unfold fin at hk
 cases hd:o.dst with
 | none=>rw [hd] at hk; exact ⟨s,rfl,hR,hk⟩
 | some d =>
  rw [hd] at hk
  obtain ⟨hb,hk⟩:=cond_inv hk
  exact ⟨s.put d v,rfl,hR.put (Nat.le_of_ble_eq_true hb) hv,hk⟩
theorem guard_ok {ops:Array Oper} {no yes:S→Prop} (hR:RelF B n F ρ s a w) (hk:guardC (envP P n gives C) ops.toList o s no yes) :
  (Region.wanted o (yielded ops a.tmps)=true∧∃ s',s'.hp=s.hp∧RelF B n F ρ s' a w∧yes s')∨(Region.wanted o (yielded ops a.tmps)=false∧∃ s',s'.hp=s.hp∧RelF B n F ρ s' a w∧no s'):=by
 unfold guardC at hk
 split at hk
 ·rename_i hg
  exact .inl ⟨by simp [Region.wanted,hg],s,rfl,hR,hk⟩
 ·rename_i j want hg
  split at hk
  ·exact hk.elim
  ·rename_i d hd
   have hj:(ops[j]?).bind (·.dst)=some d:=by
    unfold dstOf at hd
    rw [Array.getElem?_toList] at hd
    cases hx:ops[j]? with
    | none=>rw [hx] at hd; cases hd
    | some x=>rw [hx] at hd; exact hd
   split at hk
   ·rename_i hl
    have hv:=hR.tm d _ hl
    have hy:yielded ops a.tmps j=none:=by
     unfold yielded
     rw [hj]
     simp only [Option.bind_some]
     cases hx:a.tmps[d]? with
     | none=>rfl
     | some x =>
      rw [Array.getD_eq_getD_getElem?,hx,Option.getD_some] at hv
      cases hv; rfl
    exact .inr ⟨by simp [Region.wanted,hg,hy],s,rfl,hR,hk⟩
   ·rename_i hno
    obtain ⟨b,hl,hk⟩:=asBool_inv hk
    have hv:=hR.tm d _ hl
    have hc:=hv.c_inv
    have hy:yielded ops a.tmps j=some b:=by
     unfold yielded
     rw [hj]
     simp only [Option.bind_some]
     rw [Array.getD_eq_getD_getElem?] at hc
     cases hx:a.tmps[d]? with
     | none=>rw [hx] at hc; cases hc
     | some x=>rw [hx,Option.getD_some] at hc; subst hc; rfl
    have hR':RelF B n F ρ (s.put d (.b b)) a w:=hR.reput (by rw [hc]; exact .c rfl)
    have hw:Region.wanted o (yielded ops a.tmps)=(b == want):=by
     simp only [Region.wanted,hg,hy]
     cases b <;> cases want <;> rfl
    rw [hw]
    cases b <;> cases want <;> simp at hk ⊢
    ·exact ⟨s.put d (.b false),rfl,hR',hk⟩
    ·exact ⟨s.put d (.b false),rfl,hR',hk⟩
    ·exact ⟨s.put d (.b true),rfl,hR',hk⟩
    ·exact ⟨s.put d (.b true),rfl,hR',hk⟩
theorem opG_ok (hC:Sound P B C) {ops:Array Oper} (hR:RelF B n F ρ s a w) (hk:opG (envP P n gives C) ops.toList o s K):StepOk P B n ops o a w K:=by
 intro next Q hn
 rcases guard_ok hR hk with ⟨hw,s',_,hR',hk'⟩ | ⟨hw,s',_,hR',hk'⟩
 ·rw [if_pos hw]
  exact op_ok hC hR' hk' next Q fun s' F' ρ' a' w' r _ hk=>hn s' F' ρ' a' w' r hk
 ·rw [if_neg (by simp [hw])]
  obtain ⟨s2,_,h1,h2⟩:=skip_ok hR' hk'
  exact hn _ _ _ _ _ h1 h2
theorem isLit_some {P:Program} {o o2:Oper} {d1 d2:Nat} {t e:TypeId} {m:Nat} {ps:Array (Nat×Operand)} (h:isLit P o o2=some (d1,d2,t,e,m,ps)) :
  o.guard=none∧o2.guard=none∧o.op = .buildSlice t m ps∧o2.op = .convert t t (.tmp d1)∧o.dst=some d1∧o2.dst=some d2∧isSlice P t=some e∧isInt P e .u8=true∧szOf P e=1:=by
 unfold isLit at h
 split at h
 ·rename_i g1 g2
  split at h
  ·rename_i t' m' ps' t1 t2 x o1 o2'
   split at h
   ·rename_i d1' d2' e' q1 q2 q3
    cases hb:Nat.beq t1 t' && Nat.beq t2 t' && Nat.beq x d1' && isInt P e' .u8 && Nat.beq (szOf P e') 1 with
    | false=>rw [hb] at h; cases h
    | true =>
     rw [hb] at h
     simp only [cond_true,Option.some.injEq,Prod.mk.injEq] at h
     obtain ⟨rfl,rfl,rfl,rfl,rfl,rfl⟩:=h
     simp only [Bool.and_eq_true] at hb
     obtain ⟨⟨⟨⟨b1,b2⟩,b3⟩,b4⟩,b5⟩:=hb
     have e1:=Nat.eq_of_beq_eq_true b1
     have e2:=Nat.eq_of_beq_eq_true b2
     have e3:=Nat.eq_of_beq_eq_true b3
     subst e1; subst e2; subst e3
     exact ⟨g1,g2,o1,o2',q1,q2,q3,b4,Nat.eq_of_beq_eq_true b5⟩
   ·cases h
  ·cases h
 ·cases h
theorem lit_ok {ops:Array Oper} {o2:Oper} {r:List Oper} {d1 d2 m:Nat} {t e:TypeId} {ps:Array (Nat×Operand)} {Q:Exit→Act→World→Prop} (hl:isLit P o o2=some (d1,d2,t,e,m,ps)) (hR:RelF B n F ρ s a w)
  (hk:litC (envP P n gives C) d1 d2 e m ps s K) (hn:∀ s' F' ρ' a' w',RelF B n F' ρ' s' a' w'→K s'→wpList P ops Q r a' w'):wpList P ops Q (o :: o2 :: r) a w:=by
 obtain ⟨g1,g2,h1,h2,h3,h4,he,hu8,hsz⟩:=isLit_some hl
 unfold litC at hk
 split at hk
 ·exact hk.elim
 rename_i z hz
 obtain ⟨hb,hk⟩:=cond_inv hk
 simp only [Bool.and_eq_true] at hb
 obtain ⟨⟨⟨⟨⟨⟨b1,b2⟩,b4⟩,b5⟩,b6⟩,b7⟩,b8⟩:=hb
 have b2:m≤10000:=Nat.le_of_ble_eq_true b2
 have b4:z.cells.length=1:=Nat.eq_of_beq_eq_true b4
 have b7:d1 < n:=Nat.le_of_ble_eq_true b7
 have b8:d2 < n:=Nat.le_of_ble_eq_true b8
 obtain ⟨it,zv,i1,i2,i3,_⟩:=zeroV_run (P:=P) hz
 have hzv:VR (clOf w) F ρ z zv:=i3 ▸ VR.ofVal zv
 obtain ⟨z1,z2⟩:=zero_rows (m:=m) hzv b5 (b4.trans hsz.symm) (by omega)
 obtain ⟨p1,p2⟩:=partsEv hR ps
 have hml:m=(List.replicate m z).length:=by simp
 obtain ⟨rr,r1,r2⟩:=fill_rows (m:=m) _ _ _ _ p1 p2 z2 (by rw [hsz]; exact b1) hml
 have hrun:(execOp a.eval o).run P w = .ok (.value (.slice (some ⟨w.heap.size,0,none⟩) m m)) (w.alloc (.cells rr e)):=by
  have:=run_buildSlice' (w:=w) (P:=P) (parts:=ps.map fun (i,x)=>(i,a.eval x)) (isSlice_some he) i1 i2 rfl z1 (by rw [hsz]; omega) (by omega) r1
  simp only [execOp,h1,Sem.run_bind,this,Result.andThen_ok,Sem.run_pure]
 have hlen:(setAll (List.replicate m z) (partsOf s ps)).length=m:=by rw [setAll_length,List.length_replicate]
 have hds:d1 < a.tmps.size:=by rw [hR.size]; exact b7
 have hev:(a.put o.dst (.slice (some ⟨w.heap.size,0,none⟩) m m)).eval (.tmp d1) = .slice (some ⟨w.heap.size,0,none⟩) m m:=by
  simp [Act.eval,Act.put,h3,hds]
 have hrun2:(execOp (a.put o.dst (.slice (some ⟨w.heap.size,0,none⟩) m m)).eval o2).run P (w.alloc (.cells rr e)) = .ok (.value (.slice (some ⟨w.heap.size,0,none⟩) m m)) (w.alloc (.cells rr e (rr.size,rr.size+1))):=by
  have:=run_convert_bytes_const (P:=P) w t e rr m m (isSlice_some he) (isInt_some hu8)
  simp only [execOp,h2,hev,Sem.run_bind,this,Result.andThen_ok,Sem.run_pure]
 generalize hxs:setAll (List.replicate m z) (partsOf s ps)=xs at *
 have hrs:rr.size=m:=by rw [r2.size,hlen,hsz,Nat.mul_one]
 have hR1:=hR.newRow (dkey d2 0) 1 xs rr e (rr.size,rr.size+1) m (by omega) (.inr (by simp [hrs])) (by rw [hrs]; omega) (fun i x hx=>by
   obtain ⟨i',rfl⟩:=allU8_get b6 hx
   exact ⟨rfl,rfl⟩) (fun i x j hx hj=>by
   obtain ⟨c,c1,c2,c3⟩:=r2.cell i x j hx (by omega)
   exact ⟨c,by rw [hsz] at c1; exact c1,c2,c3⟩) (Nat.le_add_right _ _)
 have hv:VR (clOf (w.alloc (.cells rr e (rr.size,rr.size+1)))) F (upd ρ (dkey d2 0) ⟨0,w.heap.size,0,m,xs.length,1,0⟩) (.sla (dkey d2 0) 0) (.slice (some ⟨w.heap.size,0,none⟩) m m):=by
  rw [show xs.length=m by omega]; exact .slaNew
 have fin:=hn _ F _ _ _ ((hR1.put b7 hv).put b8 hv) hk
 rw [wpList,if_pos (by simp [Region.wanted,g1])]
 left
 simp only [Oper.wp,hrun,Oper.upon]
 rw [wpList,if_pos (by simp [Region.wanted,g2])]
 left
 simp only [Oper.wp,hrun2,Oper.upon]
 rw [h3,h4]
 exact fin
theorem opsC_ok (hC:Sound P B C) {ops:Array Oper} {Q:Exit→Act→World→Prop} (hQ:∀ s' a' w',Rel B n s' a' w'→K s'→Q .normal a' w') :
  ∀ (l:List Oper) (F:Fz) (ρ:Rho) (s:S) (a:Act) (w:World),RelF B n F ρ s a w→opsC (envP P n gives C) ops.toList l s K→wpList P ops Q l a w
 | [],F,ρ,s,a,w,hR,hk=>hQ s a w ⟨F,ρ,hR⟩ hk
 | [o],F,ρ,s,a,w,hR,hk=>by
  have h:=opG_ok hC hR hk (wpList P ops Q []) Q fun s' F' ρ' a' w' r' hk'=>hQ s' a' w' ⟨F',ρ',r'⟩ hk'
  rw [wpList]
  split at h
  ·rename_i hw; rw [if_pos hw]; exact .inl h
  ·rename_i hw; rw [if_neg hw]; exact h
 | o :: o2 :: r,F,ρ,s,a,w,hR,hk=>by
  simp only [opsC] at hk
  split at hk
  ·rename_i d1 d2 t e m ps hl
   exact lit_ok hl hR hk fun s' F' ρ' a' w' r' hk'=>opsC_ok hC hQ r F' ρ' s' a' w' r' hk'
  ·have h:=opG_ok hC hR hk (wpList P ops Q (o2 :: r)) Q fun s' F' ρ' a' w' r' hk'=>opsC_ok hC hQ (o2 :: r) F' ρ' s' a' w' r' hk'
   rw [wpList]
   split at h
   ·rename_i hw; rw [if_pos hw]; exact .inl h
   ·rename_i hw; rw [if_neg hw]; exact h
theorem region_ok (hC:Sound P B C) {id:Nat} {ops:Array Oper} {Q:Exit→Act→World→Prop} (hR:Rel B n s a w) (hk:opsC (envP P n gives C) ops.toList ops.toList s K)
  (hQ:∀ s' a' w',Rel B n s' a' w'→K s'→Q .normal a' w'):(Code.region id ops false).wp P Q a w:=by
 obtain ⟨F,ρ,hR⟩:=hR
 exact wp_region_list (opsC_ok hC hQ ops.toList F ρ s a w hR hk)
end
end Go.Proofs.YtdjldmolhkkipaaGreatDoor.Eng
end
section
set_option linter.unusedVariables false
set_option linter.unusedSimpArgs false
namespace Go.Proofs.YtdjldmolhkkipaaGreatDoor.Eng
open Go Go.Lib
def ver0 (ρ:Rho):Rho:=fun k=>{ ρ k with ver:=0 }
section
variable {B:Base} {n:Nat} {F:Fz} {ρ:Rho} {s:S} {a:Act} {w:World} {hp:List (Nat×Slot)}
theorem look_keepT (m:Nat):∀ (l:List (Nat×V)) (t:Nat) (v:V),look t (keepT m l)=some v→look t l=some v
 | [],t,v,h=>by simp [keepT,look] at h
 |(j,u) :: r,t,v,h=>by
  rw [keepT] at h
  rw [look_cons]
  cases hb:hasBit m j
  ·rw [hb] at h
   simp only [cond_false] at h
   split
   ·rename_i e
    subst e
    exfalso
    have:∀ (l:List (Nat×V)),look t (keepT m l)=none:=fun l=>by
     induction l with
     | nil=>rfl
     | cons x l ih =>
      obtain ⟨i,y⟩:=x
      rw [keepT]
      cases hi:hasBit m i
      ·exact ih
      ·simp only [cond_true]
       rw [look_cons,if_neg (fun e=>by subst e; rw [hb] at hi; cases hi)]; exact ih
    rw [this] at h; cases h
   ·exact look_keepT m r t v h
  ·rw [hb] at h
   simp only [cond_true] at h
   rw [look_cons] at h
   split at h
   ·rename_i e; rw [if_pos e]; exact h
   ·rename_i e; rw [if_neg e]; exact look_keepT m r t v h
theorem look_sortT:∀ (l:List (Nat×V)) (t:Nat),look t (sortT l)=look t l
 | [],t=>rfl
 |(j,u) :: r,t=>by
  rw [sortT,look_ins,look_cons,look_sortT r t]
theorem look_keepH (ks:List Nat):∀ (l:List (Nat×Slot)) (k:Nat) (x:Slot),look k (keepH ks l)=some x→look k l=some x
 | [],k,x,h=>by simp [keepH,look] at h
 |(j,u) :: r,k,x,h=>by
  rw [keepH] at h
  rw [look_cons]
  cases hb:(Nat.blt j 64 || ks.any (Nat.beq j))
  ·rw [hb] at h
   simp only [cond_false] at h
   split
   ·rename_i e
    subst e
    exfalso
    have:∀ (l:List (Nat×Slot)),look k (keepH ks l)=none:=fun l=>by
     induction l with
     | nil=>rfl
     | cons x l ih =>
      obtain ⟨i,y⟩:=x
      rw [keepH]
      cases hi:(Nat.blt i 64 || ks.any (Nat.beq i))
      ·exact ih
      ·simp only [cond_true]
       rw [look_cons,if_neg (fun e=>by subst e; rw [hb] at hi; cases hi)]; exact ih
    rw [this] at h; cases h
   ·exact look_keepH ks r k x h
  ·rw [hb] at h
   simp only [cond_true] at h
   rw [look_cons] at h
   split at h
   ·rename_i e; rw [if_pos e]; exact h
   ·rename_i e; rw [if_neg e]; exact look_keepH ks r k x h
theorem VR.noK {cl:Cl} {ρ2:Rho} {v:V} {c:Value} (h:VR cl F ρ v c) (hk:keysV v=[]):VR cl F ρ2 v c:=h.noKeys hk
mutual
theorem nmV_ok (hh:HR w F ρ hp):∀ (v:V) {c:Value},VR (clOf w) F ρ v c→VR (clOf w) F (ver0 ρ) (nmV hp v) c
 | .c u,c,hv=>hv.noK rfl
 | .sl x y z,c,hv=>hv.noK rfl
 | .ep x y z,c,hv=>hv.noK rfl
 | .bad,c,hv=>.bad
 | .ag cs,c,hv=>by
  simp only [nmV]
  cases hv with
  | ag hn h=>exact .ag hn h
 | .ptr k p,c,hv=>by cases hv; exact .ptr (ρ:=ver0 ρ)
 | .mp k,c,hv=>by cases hv; exact .mp (ρ:=ver0 ρ)
 | .it k,c,hv=>by cases hv; exact .it (ρ:=ver0 ρ)
 | .sla k u,c,hv=>by
  simp only [nmV]
  split
  ·rename_i es xs own frz ver hl
   cases hb:Nat.beq u ver
   ·exact .bad
   ·have:=Nat.eq_of_beq_eq_true hb
    subst this
    obtain ⟨_,e1,e2,e3,e4⟩:=hh.row hl
    cases hv with
    | sla hv h=>exact .sla (ρ:=ver0 ρ) (Nat.le_refl _) fun _=>h e3.symm
  ·rename_i xs hl
   obtain ⟨e1,e2,e3,_⟩:=hh.sr k _ hl
   cases hv with
   | sla hv h=>exact .sla (ρ:=ver0 ρ) (by rw [e3] at hv; exact hv) fun e=>h (e.trans e3.symm)
  ·exact .bad
 | .slm k p q u,c,hv=>by
  simp only [nmV]
  split
  ·rename_i es xs own frz ver hl
   cases hb:Nat.beq u ver
   ·exact .bad
   ·have:=Nat.eq_of_beq_eq_true hb
    subst this
    obtain ⟨_,e1,e2,e3,e4⟩:=hh.row hl
    cases hv with
    | slm hv h=>exact .slm (ρ:=ver0 ρ) (Nat.le_refl _) fun _=>h e3.symm
  ·exact .bad
 | .pe k u i p,c,hv=>by
  simp only [nmV]
  split
  ·rename_i es xs own frz ver hl
   cases hb:Nat.beq u ver
   ·exact .bad
   ·have:=Nat.eq_of_beq_eq_true hb
    subst this
    obtain ⟨_,e1,e2,e3,e4⟩:=hh.row hl
    cases hv with
    | pe hv h=>exact .pe (ρ:=ver0 ρ) (Nat.le_refl _) fun _=>h e3.symm
  ·exact .bad
 | .agg cs,c,hv=>by
  simp only [nmV]
  cases hv with
  | agg hn hk h' =>
   obtain ⟨l1,l2⟩:=nmC_ok hh cs
   refine .agg (l1.trans hn) hk fun i u d hu hd=>?_
   have hi:i < cs.length:=by rw [← l1]; exact (List.getElem?_eq_some_iff.1 hu).1
   exact l2 i cs[i] u d (List.getElem?_eq_getElem hi) hu (h' i _ d (List.getElem?_eq_getElem hi) hd)
 | .tup cs,c,hv=>by
  simp only [nmV]
  cases hv with
  | tup hn h' =>
   obtain ⟨l1,l2⟩:=nmC_ok hh cs
   refine .tup (l1.trans hn) fun i u d hu hd=>?_
   have hi:i < cs.length:=by rw [← l1]; exact (List.getElem?_eq_some_iff.1 hu).1
   exact l2 i cs[i] u d (List.getElem?_eq_getElem hi) hu (h' i _ d (List.getElem?_eq_getElem hi) hd)
 | .fn f x y,c,hv=>by
  simp only [nmV]
  cases hv with
  | fn hn hm h1 h2 =>
   obtain ⟨l1,l2⟩:=nmC_ok hh x
   obtain ⟨m1,m2⟩:=nmC_ok hh y
   refine .fn (l1.trans hn) (m1.trans hm) (fun i u d hu hd=>?_) (fun i u d hu hd=>?_)
   ·have hi:i < x.length:=by rw [← l1]; exact (List.getElem?_eq_some_iff.1 hu).1
    exact l2 i x[i] u d (List.getElem?_eq_getElem hi) hu (h1 i _ d (List.getElem?_eq_getElem hi) hd)
   ·have hi:i < y.length:=by rw [← m1]; exact (List.getElem?_eq_some_iff.1 hu).1
    exact m2 i y[i] u d (List.getElem?_eq_getElem hi) hu (h2 i _ d (List.getElem?_eq_getElem hi) hd)
theorem nmC_ok (hh:HR w F ρ hp):∀ (vs:List V),(nmV.nmC hp vs).length=vs.length ∧
  ∀ (i:Nat) (v v':V) (c:Value),vs[i]? = some v→(nmV.nmC hp vs)[i]? = some v'→VR (clOf w) F ρ v c→VR (clOf w) F (ver0 ρ) v' c
 | []=>⟨rfl,fun i v v' c hv=>by simp at hv⟩
 | v :: r=>by
  have hv:=fun c=>nmV_ok hh v (c:=c)
  obtain ⟨l1,l2⟩:=nmC_ok hh r
  refine ⟨by simp [nmV.nmC,l1],fun i u u' c hu hu'=>?_⟩
  cases i with
  | zero=>simp [nmV.nmC] at hu hu'; subst hu; subst hu'; exact hv c
  | succ i=>simp [nmV.nmC] at hu hu'; exact l2 i u u' c hu hu'
end
theorem owns_nmS {k:Nat} {x:Slot} {g p:Nat}:owns (ver0 ρ) k (nmS hp x) g p↔owns ρ k x g p:=by
 cases x with
 | cells kds cs=>simp only [nmS,owns,ver0,nmC_map,List.length_map]
 | refs xs=>simp only [nmS,owns,ver0,nmC_map,List.length_map]
 | _=>exact Iff.rfl
theorem nmS_ok (hh:HR w F ρ hp) {k:Nat} {x:Slot} (h:SR w F ρ k x):SR w F (ver0 ρ) k (nmS hp x):=by
 cases x with
 | cells kds cs =>
  obtain ⟨l1,l2⟩:=nmC_ok hh cs
  intro i v hv
  have hi:i < cs.length:=by rw [← l1]; exact (List.getElem?_eq_some_iff.1 hv).1
  obtain ⟨c,c1,c2,c3⟩:=h i cs[i] (List.getElem?_eq_getElem hi)
  exact ⟨c,c1,c2,l2 i _ v c (List.getElem?_eq_getElem hi) hv c3⟩
 | arr es xs own frz ver =>
  obtain ⟨h1,h2,h3,h4,h5,h6,h7⟩:=h
  refine ⟨h1,h2,rfl,h4,h5,fun j x t hx ht=>?_,h7⟩
  obtain ⟨c,c1,c2,c3,c4⟩:=h6 j x t hx ht
  exact ⟨c,c1,c2,fun z hz=>(c3 z hz).flatρ (flat_cells (h5 j x hx).2 hz),c4⟩
 | refs xs =>
  obtain ⟨l1,l2⟩:=nmC_ok hh xs
  obtain ⟨h1,h2,h3,h4,h5,h6⟩:=h
  refine ⟨h1,h2.trans l1.symm,rfl,h4,h5.trans l1.symm,fun i v hv=>?_⟩
  have hi:i < xs.length:=by rw [← l1]; exact (List.getElem?_eq_some_iff.1 hv).1
  obtain ⟨c,c1,c2,c3⟩:=h6 i xs[i] (List.getElem?_eq_getElem hi)
  exact ⟨c,c1,c2,l2 i _ v c (List.getElem?_eq_getElem hi) hv c3⟩
 | map kvs =>
  obtain ⟨es,m,h1,h2,h3⟩:=h
  refine ⟨es,m,h1,h2,fun i p e hp he=>?_⟩
  obtain ⟨a1,a2,a3,a4⟩:=h3 i p e hp he
  exact ⟨a1,a2.noK a4,a3,a4⟩
 | iter t p=>exact h
theorem trim_ok (m:Nat) (h:Rel B n s a w):Rel B n (s.trim m) a w:=by
 obtain ⟨F,ρ,h⟩:=h
 refine ⟨F,ver0 ρ,?_⟩
 unfold S.trim
 simp only
 have get:∀ k x,look k (keepH (reach s.hp (uniq ((sortT (keepT m s.tm)).flatMap (fun x=>keysV x.2)++(s.hp.map (·.1)).filter (Nat.blt · 64)) [])) s.hp)=some x→look k s.hp=some x :=
  fun k x hl=>look_keepH _ _ k x hl
 generalize keepH (reach s.hp (uniq ((sortT (keepT m s.tm)).flatMap (fun x=>keysV x.2)++(s.hp.map (·.1)).filter (Nat.blt · 64)) [])) s.hp=hp1 at *
 have hh:HR w F ρ hp1:=⟨fun k x hl=>h.hr.sr k x (get k x hl),fun k x g o hl=>h.hr.free k x g o (get k x hl),fun k k' x x' g o hl hl'=>h.hr.apart k k' x x' g o (get k x hl) (get k' x' hl'),h.hr.fin⟩
 have get1:∀ k y,look k (hp1.map fun x=>(x.1,nmS hp1 x.2))=some y→∃ x,look k hp1=some x∧y=nmS hp1 x:=fun k y hl=>by
  rw [look_map] at hl
  cases hx:look k hp1 with
  | none=>rw [hx] at hl; cases hl
  | some x=>rw [hx] at hl; cases hl; exact ⟨x,rfl,rfl⟩
 refine ⟨h.size,h.defers,fun t v hv=>?_,⟨fun k y hl=>?_,fun k y g o hl ho=>?_,fun k k' y y' g o hl hl' hne ho ho'=>?_,h.hr.fin⟩,
  ⟨h.fr.size,h.fr.same,h.fr.cell,fun k y g o hl ho=>?_,h.fr.fup,h.fr.fnew,h.fr.keep,h.fr.frz⟩⟩
 ·simp only at hv
  rw [look_map] at hv
  rw [look_sortT] at hv
  cases hx:look t (keepT m s.tm) with
  | none=>rw [hx] at hv; cases hv
  | some u =>
   rw [hx] at hv
   simp only [Option.map_some,Option.some.injEq] at hv
   subst hv
   exact nmV_ok hh u (h.tm t u (look_keepT m _ t u hx))
 ·obtain ⟨x,e1,rfl⟩:=get1 k y hl
  exact nmS_ok hh (hh.sr k x e1)
 ·obtain ⟨x,e1,rfl⟩:=get1 k y hl
  exact hh.free k x g o e1 (owns_nmS.1 ho)
 ·obtain ⟨x,e1,rfl⟩:=get1 k y hl
  obtain ⟨x',e1',rfl⟩:=get1 k' y' hl'
  exact hh.apart k k' x x' g o e1 e1' hne (owns_nmS.1 ho) (owns_nmS.1 ho')
 ·obtain ⟨x,e1,rfl⟩:=get1 k y hl
  exact h.fr.owned k x g o (get k x e1) (owns_nmS.1 ho)
theorem few_ok (m:Nat) (h:Rel B n s a w):Rel B n (s.few m) a w:=by
 obtain ⟨F,ρ,h⟩:=h
 refine ⟨F,ρ,?_⟩
 unfold S.few
 have get:∀ k x,look k (keepH (reach s.hp (uniq ((keepT m s.tm).flatMap (fun x=>keysV x.2)++(s.hp.map (·.1)).filter (Nat.blt · 64)) [])) s.hp)=some x→look k s.hp=some x :=
  fun k x hl=>look_keepH _ _ k x hl
 generalize keepH (reach s.hp (uniq ((keepT m s.tm).flatMap (fun x=>keysV x.2)++(s.hp.map (·.1)).filter (Nat.blt · 64)) [])) s.hp=hp1 at *
 exact ⟨h.size,h.defers,fun t v hv=>h.tm t v (look_keepT m _ t v hv),⟨fun k x hl=>h.hr.sr k x (get k x hl),fun k x g o hl=>h.hr.free k x g o (get k x hl),fun k k' x x' g o hl hl'=>h.hr.apart k k' x x' g o (get k x hl) (get k' x' hl'),h.hr.fin⟩,
  ⟨h.fr.size,h.fr.same,h.fr.cell,fun k y g o hl ho=>h.fr.owned k y g o (get k y hl) ho,h.fr.fup,h.fr.fnew,h.fr.keep,h.fr.frz⟩⟩
end
end Go.Proofs.YtdjldmolhkkipaaGreatDoor.Eng
end
section
set_option linter.unusedVariables false
set_option linter.unusedSimpArgs false
namespace Go.Proofs.YtdjldmolhkkipaaGreatDoor.Eng
open Go
theorem hasBit_eq (m t:Nat):hasBit m t=m.testBit t:=by
 unfold hasBit
 rw [Nat.testBit_eq_decide_div_mod_eq,show Nat.shiftRight m t=m >>> t from rfl,Nat.shiftRight_eq_div_pow,show Nat.mod (m / 2 ^ t) 2=m / 2 ^ t % 2 from rfl]
 rcases Nat.mod_two_eq_zero_or_one (m / 2 ^ t) with h | h <;> rw [h] <;> rfl
theorem bit_eq (t:Nat):bit t=2 ^ t:=by unfold bit; exact Nat.one_shiftLeft t
theorem lor_bit (m i j:Nat):(Nat.lor m (bit i)).testBit j=(m.testBit j || decide (i=j)):=by
 rw [bit_eq]; show (m ||| 2 ^ i).testBit j=_
 rw [Nat.testBit_or,Nat.testBit_two_pow]
theorem land_sub (d L:Nat):Nat.beq (Nat.land d L) d=true↔∀ j,d.testBit j=true→L.testBit j=true:=by
 rw [Nat.beq_eq]
 show d &&& L=d↔_
 constructor
 ·intro h j hj
  rw [← h,Nat.testBit_and] at hj
  simp only [Bool.and_eq_true] at hj; exact hj.2
 ·intro h
  apply Nat.eq_of_testBit_eq
  intro j
  rw [Nat.testBit_and]
  cases hd:d.testBit j
  ·rfl
  ·rw [h j hd]; rfl
theorem land_zero (d L:Nat):Nat.beq (Nat.land d L) 0=true↔∀ j,d.testBit j=true→L.testBit j=false:=by
 rw [Nat.beq_eq]
 show d &&& L=0↔_
 constructor
 ·intro h j hj
  have:=congrArg (fun x=>x.testBit j) h
  simp only [Nat.testBit_and,hj,Bool.true_and,Nat.zero_testBit] at this; exact this
 ·intro h
  apply Nat.eq_of_testBit_eq
  intro j
  rw [Nat.testBit_and,Nat.zero_testBit]
  cases hd:d.testBit j
  ·rfl
  ·rw [h j hd]; rfl
theorem depM_bit (es:List Edge) (j:Nat):(depM es).testBit j=true↔∃ e∈es,Region.binds .any e=true∧e.on=j:=by
 induction es with
 | nil=>simp [depM]
 | cons e r ih =>
  rw [depM]
  cases hb:Region.binds .any e
  ·simp only [cond_false,ih,List.mem_cons,exists_eq_or_imp,hb,Bool.false_eq_true,false_and,false_or]
  ·simp only [cond_true,List.mem_cons,exists_eq_or_imp,hb,true_and]
   rw [show Nat.lor (bit e.on) (depM r)=bit e.on ||| depM r from rfl,Nat.testBit_or,bit_eq,Nat.testBit_two_pow,Bool.or_eq_true,ih,decide_eq_true_iff]
theorem opdMask_bit (l:List Operand) (d:Nat) (h:Operand.tmp d∈l):(opdMask l).testBit d=true:=by
 induction l with
 | nil=>cases h
 | cons x r ih =>
  cases h with
  | head=>rw [opdMask,show Nat.lor (bit d) (opdMask r)=bit d ||| opdMask r from rfl,Nat.testBit_or,bit_eq,Nat.testBit_two_pow]; simp
  | tail _ h =>
   have:=ih h
   cases x <;> simp only [opdMask]
   case tmp t=>rw [show Nat.lor (bit t) (opdMask r)=bit t ||| opdMask r from rfl,Nat.testBit_or,this,Bool.or_true]
   all_goals exact this
section
variable {P:Program} {ops:Array Oper}
theorem looks_bit {o:Oper} {d:Nat} (h:d∈o.looksAt ops):(rowOf P ops.toList o).look.testBit d=true:=by
 simp only [rowOf]
 rw [show Nat.lor (opdMask o.op.operands.toList) (guardMask ops.toList o)=opdMask o.op.operands.toList ||| guardMask ops.toList o from rfl,Nat.testBit_or]
 rcases List.mem_append.1 h with h | h
 ·obtain ⟨x,hx,he⟩:=List.mem_filterMap.1 h
  cases x <;> simp at he
  subst he
  rw [opdMask_bit _ _ hx]; rfl
 ·cases hg:o.guard with
  | none=>rw [hg] at h; cases h
  | some p =>
   obtain ⟨g,b⟩:=p
   rw [hg] at h
   simp only [Option.mem_toList,Option.bind_eq_some_iff] at h
   obtain ⟨og,h1,h2⟩:=h
   simp only [guardMask,hg,dstOf,Array.getElem?_toList,h1,h2,bit_eq,Nat.testBit_two_pow]
   simp
def Rp (ops:Array Oper) (L:Nat) (LE:Array Bool):Prop:=LE.size=ops.size∧∀ i,L.testBit i=LE.getD i false
theorem Rp.init:Rp ops 0 (Array.replicate ops.size false):=by
 refine ⟨by simp,fun i=>?_⟩
 rw [Nat.zero_testBit]
 simp [Array.getElem?_replicate]
 split <;> rfl
theorem Rp.set {L:Nat} {LE:Array Bool} (h:Rp ops L LE) {i:Nat} (hi:i < ops.size):Rp ops (Nat.lor L (bit i)) (LE.setIfInBounds i true):=by
 refine ⟨by simp [h.1],fun j=>?_⟩
 rw [lor_bit,h.2]
 by_cases e:i=j
 ·subst e
  simp [h.1,hi]
 ·simp [Array.getElem?_setIfInBounds_ne e,e]
def rdy (ops:Array Oper) (LE:Array Bool) (i:Nat):Bool:=!LE.getD i true && ((ops[i]?).map (·.after.all fun e=>!Region.binds .any e || LE.getD e.on false)).getD false
theorem canF_eq {L:Nat} {LE:Array Bool} (h:Rp ops L LE) {i:Nat} {o:Oper} (ho:ops[i]? = some o):canF i L (rowOf P ops.toList o)=rdy ops LE i:=by
 have hlt:=(Array.getElem?_eq_some_iff.1 ho).1
 have h1:LE.getD i true=LE.getD i false:=by simp [h.1,hlt]
 simp only [canF,rdy,hasBit_eq,h.2,h1,ho,Option.map_some,Option.getD_some]
 congr 1
 apply Bool.eq_iff_iff.2
 rw [land_sub]
 simp only [rowOf,depM_bit,Array.all_eq_true_iff_forall_mem,Bool.or_eq_true,Bool.not_eq_true']
 constructor
 ·intro hh e he
  cases hb:Region.binds .any e
  ·exact .inl rfl
  ·exact .inr (by rw [← h.2]; exact hh e.on ⟨e,Array.mem_toList_iff.2 he,hb,rfl⟩)
 ·rintro hh j ⟨e,he,hb,rfl⟩
  rcases hh e (Array.mem_toList_iff.1 he) with h' | h'
  ·rw [hb] at h'; cases h'
  ·rw [h.2]; exact h'
theorem readyF_eq {L:Nat} {LE:Array Bool} (h:Rp ops L LE):∀ (l:List Oper) (i:Nat),(∀ k o,l[k]? = some o→ops[i+k]? = some o)→readyF L (l.map (rowOf P ops.toList)) i=(List.range' i l.length).filter (rdy ops LE)
 | [],i,hl=>rfl
 | o :: r,i,hl=>by
  have h0:ops[i]? = some o:=hl 0 o rfl
  have ih:=readyF_eq h r (i+1) (fun k o hk=>by have:=hl (k+1) o (by simpa using hk); rw [Nat.add_assoc,Nat.add_comm 1]; exact this)
  rw [List.map_cons,readyF,List.length_cons,List.range'_succ,List.filter_cons,← ih,canF_eq h h0]
  cases hb:rdy ops LE i <;> simp
theorem readyF_all {L:Nat} {LE:Array Bool} (h:Rp ops L LE):readyF L (ops.toList.map (rowOf P ops.toList)) 0=Region.ready .any ops LE:=by
 rw [readyF_eq h ops.toList 0 (fun k o hk=>by rw [Nat.zero_add,← Array.getElem?_toList]; exact hk)]
 unfold Region.ready
 rw [List.range_eq_range',Array.length_toList]; rfl
theorem stillF_eq {L:Nat} {LE:Array Bool} (h:Rp ops L LE):∀ (l:List Oper) (i:Nat),(∀ k o,l[k]? = some o→ops[i+k]? = some o) →
  stillF L (l.map (rowOf P ops.toList)) i=((List.range' i l.length).filter (rdy ops LE)).find? (fun i=>match ops[i]? with | some o=>isStill P o | none=>false)
 | [],i,hl=>rfl
 | o :: r,i,hl=>by
  have h0:ops[i]? = some o:=hl 0 o rfl
  have ih:=stillF_eq h r (i+1) (fun k o hk=>by have:=hl (k+1) o (by simpa using hk); rw [Nat.add_assoc,Nat.add_comm 1]; exact this)
  rw [List.map_cons,stillF,List.length_cons,List.range'_succ,List.filter_cons,canF_eq h h0]
  have e:(rowOf P ops.toList o).still=isStill P o:=rfl
  cases hb:rdy ops LE i
  ·simp only [Bool.and_false,cond_false,Bool.false_eq_true,if_false,ih]
  ·simp only [Bool.and_true,if_true,List.find?_cons]
   rw [h0,e]
   simp only []
   cases isStill P o
   ·simp only [cond_false,ih]
   ·rfl
theorem ssa1_ok {d i:Nat}:∀ (l:List Oper) (j:Nat),ssa1 d i (l.map (rowOf P ops.toList)) j=true→∀ k o,l[k]? = some o →
  (Nat.beq (Nat.land (rowOf P ops.toList o).look d) 0=true∨(rowOf P ops.toList o).dep.testBit i=true)∧(i=j+k∨Nat.beq (Nat.land (rowOf P ops.toList o).dst d) 0=true)
 | [],j,h,k,o,hk=>by simp at hk
 | x :: r,j,h,k,o,hk=>by
  simp only [List.map_cons,ssa1,Bool.and_eq_true,Bool.or_eq_true,hasBit_eq] at h
  cases k with
  | zero =>
   simp at hk; subst hk
   exact ⟨h.1.1,h.1.2.imp (fun h=>by simpa using h) id⟩
  | succ k =>
   obtain ⟨h1,h2⟩:=ssa1_ok r (j+1) h.2 k o (by simpa using hk)
   exact ⟨h1,h2.imp (fun h=>by omega) id⟩
theorem ssa_ok:∀ (l:List Oper) (i:Nat),ssa (ops.toList.map (rowOf P ops.toList)) (l.map (rowOf P ops.toList)) i=true→∀ k o d,l[k]? = some o→o.dst=some d→∀ j oj,ops[j]? = some oj →
  ((rowOf P ops.toList oj).look.testBit d=false∨(rowOf P ops.toList oj).dep.testBit (i+k)=true)∧(i+k=j∨oj.dst≠some d)
 | [],i,h,k,o,d,hk=>by simp at hk
 | x :: r,i,h,k,o,d,hk=>by
  simp only [List.map_cons,ssa,Bool.and_eq_true,Bool.or_eq_true] at h
  cases k with
  | zero =>
   simp at hk; subst hk
   intro hd j oj hj
   have ed:(rowOf P ops.toList x).dst=2 ^ d:=by simp [rowOf,dstMask,hd,bit_eq]
   rcases h.1 with h1 | h1
   ·rw [ed,Nat.beq_eq] at h1
    exact absurd h1 (Nat.ne_of_gt (Nat.two_pow_pos d))
   ·rw [ed] at h1
    obtain ⟨p1,p2⟩:=ssa1_ok ops.toList 0 h1 j oj (by rw [Array.getElem?_toList]; exact hj)
    refine ⟨p1.imp (fun h=>?_) id,p2.imp (fun h=>by omega) fun h he=>?_⟩
    ·cases hb:(rowOf P ops.toList oj).look.testBit d
     ·rfl
     ·have:=(land_zero _ _).1 h d hb
      rw [Nat.testBit_two_pow_self] at this; cases this
    ·have ed':(rowOf P ops.toList oj).dst=2 ^ d:=by simp [rowOf,dstMask,he,bit_eq]
     rw [ed'] at h
     have:=(land_zero _ _).1 h d (Nat.testBit_two_pow_self)
     rw [Nat.testBit_two_pow_self] at this; cases this
  | succ k =>
   have:=ssa_ok r (i+1) h.2 k o d (by simpa using hk)
   rw [show i+(k+1)=i+1+k by omega]; exact this
theorem free_ssa (hs:ssa (ops.toList.map (rowOf P ops.toList)) (ops.toList.map (rowOf P ops.toList)) 0=true) {LE:Array Bool} {i:Nat} (hi:rdy ops LE i=true):Region.free .any ops LE i=true:=by
 simp only [rdy,Bool.and_eq_true,Bool.not_eq_true'] at hi
 obtain ⟨h0,h1⟩:=hi
 unfold Region.free
 cases hoi:ops[i]? with
 | none=>simp [hoi] at h1
 | some oi =>
  simp only [hoi,Option.map_some,Option.getD_some,Array.all_eq_true_iff_forall_mem,Bool.or_eq_true,Bool.not_eq_true'] at h1
  simp only [List.all_eq_true,List.mem_range]
  intro j hj
  cases hoj:ops[j]? with
  | none=>simp
  | some oj =>
   simp only [Bool.or_eq_true,beq_iff_eq]
   by_cases e:j=i
   ·exact .inl (.inl e)
   cases hl:LE.getD j true
   case true=>exact .inl (.inr rfl)
   refine .inr ?_
   have hiL:ops.toList[i]? = some oi:=by rw [Array.getElem?_toList]; exact hoi
   have hjL:ops.toList[j]? = some oj:=by rw [Array.getElem?_toList]; exact hoj
   have bitm:∀ {d:Nat} {x y:Oper},d∈x.looksAt ops→(rowOf P ops.toList x).look.testBit d=true:=fun h=>looks_bit h
   cases hdep:(rowOf P ops.toList oj).dep.testBit i
   case true =>
    refine .inl ?_
    obtain ⟨e',he,hb,hon⟩:=(depM_bit _ _).1 hdep
    exact Array.any_eq_true'.2 ⟨e',Array.mem_toList_iff.1 he,by simp [hb,hon]⟩
   refine .inr ?_
   have hdij:(rowOf P ops.toList oi).dep.testBit j=false:=by
    cases hd:(rowOf P ops.toList oi).dep.testBit j
    ·rfl
    ·obtain ⟨e',he,hb,hon⟩:=(depM_bit _ _).1 hd
     rcases h1 e' (Array.mem_toList_iff.1 he) with h' | h'
     ·rw [hb] at h'; cases h'
     ·rw [hon] at h'
      rcases Nat.lt_or_ge j LE.size with h'' | h''
      ·simp [h''] at h' hl; rw [hl] at h'; cases h'
      ·simp [Array.getElem?_eq_none h''] at h'
   simp only [Oper.apart,Bool.and_eq_true]
   constructor
   ·cases hd:oi.dst with
    | none=>rfl
    | some d =>
     obtain ⟨p1,p2⟩:=ssa_ok ops.toList 0 hs i oi d hiL hd j oj hoj
     rw [Nat.zero_add] at p1 p2
     simp only [Bool.and_eq_true,Bool.not_eq_true',bne_iff_ne,ne_eq]
     constructor
     ·cases hc:(oj.looksAt ops).contains d
      ·rfl
      ·have:=bitm (y:=oj) (List.contains_iff_mem.1 hc)
       rcases p1 with p1 | p1
       ·rw [this] at p1; cases p1
       ·rw [hdep] at p1; cases p1
     ·exact p2.resolve_left fun h=>e h.symm
   ·cases hd:oj.dst with
    | none=>rfl
    | some d =>
     obtain ⟨p1,p2⟩:=ssa_ok ops.toList 0 hs j oj d hjL hd i oi hoi
     rw [Nat.zero_add] at p1 p2
     simp only [Bool.not_eq_true']
     cases hc:(oi.looksAt ops).contains d
     ·rfl
     ·have:=bitm (y:=oj) (List.contains_iff_mem.1 hc)
      rcases p1 with p1 | p1
      ·rw [this] at p1; cases p1
      ·rw [hdij] at p1; cases p1
theorem find_congr {α:Type} {p q:α→Bool}:∀ {l:List α},(∀ x∈l,p x=q x)→l.find? p=l.find? q
 | [],_=>rfl
 | x :: r,h=>by rw [List.find?_cons,List.find?_cons,h x (.head _),find_congr fun y hy=>h y (.tail _ hy)]
theorem mapT_congr' {f g:Nat→Option Tre}:∀ (l:List Nat),(∀ i∈l,f i=g i)→mapT f l=mapT g l
 | [],h=>rfl
 | [k],h=>by rw [mapT,mapT,h k (.head _)]
 | k :: j :: l,h=>by rw [mapT,mapT,h k (.head _),mapT_congr' (j :: l) fun i hi=>h i (.tail _ hi)]
theorem schedF_eq (hs:ssa (ops.toList.map (rowOf P ops.toList)) (ops.toList.map (rowOf P ops.toList)) 0=true):∀ (f:Nat) (L:Nat) (LE:Array Bool),Rp ops L LE→schedF (ops.toList.map (rowOf P ops.toList)) f L=sched P ops f LE
 | 0,L,LE,h=>by
  rw [schedF,sched,readyF_all h]
 | f+1,L,LE,h=>by
  have hst:stillF L (ops.toList.map (rowOf P ops.toList)) 0=(Region.ready .any ops LE).find? (stillAt P ops LE):=by
   rw [stillF_eq h ops.toList 0 (fun k o hk=>by rw [Nat.zero_add,← Array.getElem?_toList]; exact hk)]
   have:(List.range' 0 ops.toList.length).filter (rdy ops LE)=Region.ready .any ops LE:=by
    unfold Region.ready
    rw [List.range_eq_range',Array.length_toList]; rfl
   rw [this]
   refine find_congr fun i hi=>?_
   have hi':rdy ops LE i=true:=by rw [← this] at hi; exact (List.mem_filter.1 hi).2
   simp only [stillAt]
   cases ops[i]? with
   | none=>rfl
   | some o=>simp [free_ssa hs hi']
  have hsz:∀ i,i∈Region.ready .any ops LE→i < ops.size:=fun i hi=>by
   unfold Region.ready at hi
   exact List.mem_range.1 (List.mem_filter.1 hi).1
  rw [schedF,sched,hst,readyF_all h]
  cases hf:(Region.ready .any ops LE).find? (stillAt P ops LE) with
  | some i=>simp only [schedF_eq hs f _ _ (h.set (hsz i (List.mem_of_find?_eq_some hf)))]
  | none =>
   simp only
   cases hr:Region.ready .any ops LE with
   | nil=>rfl
   | cons i r=>exact mapT_congr' (i :: r) fun k hk=>schedF_eq hs f _ _ (h.set (hsz k (by rw [hr]; exact hk)))
theorem noSel_eq:∀ (l:List Oper),noSel l=l.all fun o=>match o.op with | .select ..=>false | _=>true
 | []=>rfl
 | o :: r=>by rw [noSel,List.all_cons,noSel_eq r]; cases o.op <;> rfl
theorem schedOf_ok {l:Tre} (h:schedOf P ops=some l):Region.noSelect ops=true∧sched P ops ops.size (Array.replicate ops.size false)=some l:=by
 unfold schedOf at h
 cases hn:noSel ops.toList
 ·rw [hn] at h; cases h
 ·rw [hn] at h
  simp only [cond_true] at h
  refine ⟨?_,?_⟩
  ·unfold Region.noSelect
   rw [noSel_eq] at hn
   rw [← Array.all_toList]; exact hn
  ·cases hs:ssa (ops.toList.map (rowOf P ops.toList)) (ops.toList.map (rowOf P ops.toList)) 0
   ·rw [hs] at h; exact h
   ·rw [hs] at h
    simp only [cond_true] at h
    rw [← schedF_eq hs _ _ _ Rp.init]; exact h
end
end Go.Proofs.YtdjldmolhkkipaaGreatDoor.Eng
end
